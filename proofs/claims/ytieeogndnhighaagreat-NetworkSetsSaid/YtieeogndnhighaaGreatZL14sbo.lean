/- A part of the proof of L14s. No condition. -/
import Derived.Test.YtieeogndnhighaaGreatZL14sbb
import Derived.Test.YtieeogndnhighaaGreatZL14sbd
import Derived.Test.YtieeogndnhighaaGreatZL14sbe
import Derived.Test.YtieeogndnhighaaGreatZL14sbm
set_option linter.all false
set_option maxRecDepth 100000
set_option maxHeartbeats 8000000
namespace Go.Proofs.YtieeogndnhighaaGreat
open Go.RowKit
structure S14.P where
 ctrs:List (Int×Int)
 sb:Int
 sd:List Int
 slot:Int
 m:S12.M
 mi:Int
 mw:List (List Int)
 ac:List Int
structure Lay where
 a1:Option Addr
 c1:Nat
 a2:Option Addr
 c2:Nat
 pl:Pl
 a3:Option Addr
 c3:Nat
 a4:Option Addr
 c4:Nat
def SlotC(p:S14.P)(y:Lay):List Value:=[.int .i64 p.sb,.slice y.a2 p.sd.length y.c2]
def MixC(p:S14.P)(y:Lay):List Value:=[.int .i64 p.mi,.slice y.a3 p.mw.length y.c3]
def ApmC(p:S14.P)(y:Lay):List Value:=[.slice y.a4 p.ac.length y.c4]
def yG(p:S14.P)(y:Lay):List Value:=
 [.slice y.a1 p.ctrs.length y.c1,.int .i64 p.sb,.slice y.a2 p.sd.length y.c2,.int .i64 p.slot,.int .i64 p.m.bits,.int .i64 p.m.least,.slice y.pl.ah p.m.heads.length y.pl.ch,.slice y.pl.ab p.m.bytes.length y.pl.cb,.int .i64 p.m.at_,.int .i64 p.m.len,.int .i64 p.m.part,.int .i64 p.m.bit,.slice y.pl.ac p.m.ctrs.length y.pl.cc,
  .int .i64 p.mi,.slice y.a3 p.mw.length y.c3,.slice y.a4 p.ac.length y.c4]
def PV(p:S14.P)(y:Lay):Value:=.agg (yG p y).toArray
structure PIs(p:S14.P)(y:Lay)(w:World):Prop where
 rc:Rd w y.a1 (Cts p.ctrs)
 tab:Tab p.sd y.a2 y.c2 w
 mch:MIs p.m y.pl w
 mix:MixIs p.mi p.mw (.agg (MixC p y).toArray) w
 apm:MapIs p.ac (.agg (ApmC p y).toArray) w
theorem PIs.step{p:S14.P}{y:Lay}{w w':World}(h:PIs p y w)(hb:Below w.heap.size w w'):PIs p y w':=
 ⟨h.rc.step hb,h.tab.step hb,h.mch.step hb,h.mix.step hb,h.apm.step hb⟩
theorem zaD(p:S14.P)(y:Lay):(yG p y).length=16:=rfl
theorem zbD(p:S14.P)(y:Lay):∀v∈yG p y,v.oneCell'=true:=by
 intro v hv;simp only[yG,List.mem_cons,zbZ,or_false]at hv;rcases hv with rfl|rfl|rfl|rfl|rfl|rfl|rfl|rfl|rfl|rfl|rfl|rfl|rfl|rfl|rfl|rfl<;>rfl
def S14.P0:S14.P:=⟨[],0,[],0,⟨0,0,[],[],0,0,0,0,[]⟩,0,[],[]⟩
def zeZ:Lay:=⟨none,0,none,0,⟨none,0,none,0,none,0⟩,none,0,none,0⟩
theorem PIs.zero(w:World):PIs S14.P0 zeZ w:=
 ⟨Rd.nil _ _,⟨(fun x hx=>(by cases hx)),zF _,Rd.nil _ _⟩,⟨Rd.nil _ _,Rd.nil _ _,Rd.nil _ _,(fun x hx=>(by cases hx)),zF _,by decide,by decide,by decide⟩,
   ⟨[],none,0,rfl,rfl,zF _,by decide,Rd.nil _ _,(fun r hr=>(by cases hr))⟩,⟨none,0,rfl,zF _,by decide,Rd.nil _ _⟩⟩
structure S14.N where
 comps:List S14.C
 parts:List S14.P
 ctxs:List Nat
 part:Int
structure NLay where
 a1:Option Addr
 c1:Nat
 a2:Option Addr
 c2:Nat
 a3:Option Addr
 c3:Nat
 ys:List Lay
def zeS(l:List Nat):List Value:=l.map fun(x:Nat)=>.int .u32 (x:Int)
theorem zaC(l:List Nat):(zeS l).length=l.length:=by simp[zeS]
def PCs:List S14.P→List Lay→List Value
 | p::ps,y::ys=>yG p y++PCs ps ys
 | _,_=>[]
def zaI(N:S14.N)(L:NLay):List Value:=[.slice L.a1 N.comps.length L.c1,.slice L.a2 N.parts.length L.c2,.slice L.a3 N.ctxs.length L.c3,.int .i64 N.part]
def NV(N:S14.N)(L:NLay):Value:=.agg (zaI N L).toArray
structure NIs(N:S14.N)(L:NLay)(w:World):Prop where
 rc:Rd w L.a1 (zdB N.comps)
 rp:Rd w L.a2 (PCs N.parts L.ys)
 rx:Rd w L.a3 (zeS N.ctxs)
 ly:L.ys.length=N.parts.length
 ps:∀(i:Nat) (p:S14.P) (y:Lay),N.parts[i]? = some p→L.ys[i]? = some y→PIs p y w
 xs:∀x∈N.ctxs,x<4294967296
 l1:N.comps.length≤L.c1∧L.c1≤9223372036854775807
 l2:N.parts.length≤L.c2∧L.c2≤9223372036854775807
 l3:N.ctxs.length≤L.c3∧L.c3≤9223372036854775807
theorem NIs.step{N:S14.N}{L:NLay}{w w':World}(h:NIs N L w)(hb:Below w.heap.size w w'):NIs N L w':=
 ⟨h.rc.step hb,h.rp.step hb,h.rx.step hb,h.ly,fun i p y h1 h2=>(h.ps i p y h1 h2).step hb,h.xs,h.l1,h.l2,h.l3⟩
theorem zbP:∀(ps:List S14.P) (ys:List Lay),ys.length=ps.length→(PCs ps ys).length=16*ps.length
 | [],[],_=>rfl
 | p::ps,y::ys,h=>by
   have:=zbP ps ys (by simpa using h);simp only[PCs,List.length_append,zaD,zaU,this];omega
theorem PCs_at:∀(ps:List S14.P) (ys:List Lay) {i j:Nat} {p:S14.P} {y:Lay},ps[i]? = some p→ys[i]? = some y→j<16→(PCs ps ys)[16*i+j]? = (yG p y)[j]?
 | [],_,i,j,p,y,h,_,_=>by simp at h
 | _::_,[],i,j,p,y,_,h,_=>by simp at h
 | q::ps,z::ys,0,j,p,y,h1,h2,hj=>by
   obtain rfl:q=p:=by simpa using h1
   obtain rfl:z=y:=by simpa using h2
   show(yG q z++PCs ps ys)[16*0+j]? = _;rw[Nat.mul_zero,yP,zeE (by rw[zaD];exact hj)]
 | q::ps,z::ys,i+1,j,p,y,h1,h2,hj=>by
   show(yG q z++PCs ps ys)[16*(i+1)+j]? = _;rw[yW (by rw[zaD];omega),zaD,show 16*(i+1)+j-16=16*i+j by omega];exact PCs_at ps ys (by simpa using h1) (by simpa using h2) hj
theorem NIs.part_at{N:S14.N}{L:NLay}{w:World}(h:NIs N L w){k:Nat}(hk:k<N.parts.length):∃b o p y,L.a2=some ⟨b,o,none⟩∧N.parts[k]? = some p∧L.ys[k]? = some y∧w.rangeAt b (o+k*16) (yG p y)∧PIs p y w:=by
 obtain⟨p,hp⟩:∃p,N.parts[k]? = some p:=⟨_,zG hk⟩;obtain⟨y,hy⟩:∃y,L.ys[k]? = some y:=⟨_,zG (by rw[h.ly];exact hk)⟩;obtain⟨b,o,e,hcs⟩:=h.rp (fun e=>by have h1:=yQ List.length e;rw[zbP _ _ h.ly]at h1;simp at h1;omega);refine⟨b,o,p,y,e,hp,hy,fun j v hv=> ?_,h.ps k p y hp hy⟩;have hj:j<16:=by have:=(List.getElem?_eq_some_iff.1 hv).1;rwa[zaD]at this
 have:=hcs (16*k+j) v ((PCs_at _ _ hp hy hj).trans hv);rw[show o+(16*k+j)=o+k*16+j by omega]at this;exact this
theorem NIs.comp_at{N:S14.N}{L:NLay}{w:World}(h:NIs N L w){k:Nat}{c:S14.C}(hc:N.comps[k]? = some c):∃b o,L.a1=some ⟨b,o,none⟩∧Elem14 w b (o+k*6) c:=by
 have hk:=(List.getElem?_eq_some_iff.1 hc).1;obtain⟨b,o,e,hcs⟩:=h.rc (fun e=>by have h1:=yQ List.length e;rw[yS]at h1;simp at h1;omega);exact⟨b,o,e,zjO hcs hc⟩
theorem NIs.ctx_at{N:S14.N}{L:NLay}{w:World}(h:NIs N L w){k:Nat}(hk:k<N.ctxs.length):∃b o,L.a3=some ⟨b,o,none⟩∧w.cell? ⟨b,o+k,none⟩=some (.int .u32 (N.ctxs.getD k 0:Nat))∧N.ctxs.getD k 0<4294967296:=by
 obtain⟨b,o,e,hcs⟩:=h.rx.at (i:=k) (by rw[zaC];exact hk);refine⟨b,o,e,?_,?_⟩
 ·rw[hcs k (by rw[zaC];exact hk),zU,zG hk];simp[zeS]
 ·rw[zU,zG hk];exact h.xs _ (List.getElem_mem hk)
def S14.N0:S14.N:=⟨[],[],[],0⟩
def NLay0:NLay:=⟨none,0,none,0,none,0,[]⟩
theorem NIs.zero(w:World):NIs S14.N0 NLay0 w:=
 ⟨Rd.nil _ _,Rd.nil _ _,Rd.nil _ _,rfl,(fun i p y h=>(by simp[S14.N0]at h)),(fun x hx=>(by cases hx)),⟨zF _,by decide⟩,⟨zF _,by decide⟩,⟨zF _,by decide⟩⟩
def zP:Array Value:=(yG S14.P0 zeZ).toArray
theorem zeroP_run(w:World):(zeroValue 83).run Tryz.prog w = .ok (.agg zP) w:=by
 have h:(Tryz.prog.info? 83).bind (·.zero)=some (.agg zP):=by kernel_rfl
 obtain⟨i,hi⟩:∃i,Tryz.prog.info? 83=some i:=by
  cases hh:Tryz.prog.info? 83 with
  | none=>rw[hh]at h;cases h
  | some i=>exact⟨i,rfl⟩
 rw[hi]at h;have hz:i.zero=some (.agg zP):=h;unfold zeroValue typeInfo;simp[go_sem,hi,hz]
theorem zeR(w:World):(Instr.alloc 83 true (.tuple #[])).run Tryz.prog w = .ok (.pointer (some ⟨w.heap.size,0,none⟩)) (w.alloc (.cells zP 83)):=by
 have hz:=zeroP_run w;unfold Instr.alloc;simp[hz,go_sem]
theorem info_P:(Tryz.prog.info? 83).map (·.size)=some 16:=by kernel_rfl
theorem zhK(w:World):Blk (w.alloc (.cells zP 83)) w.heap.size (yG S14.P0 zeZ) 83:=Blk.new w _ _
attribute [irreducible] zP
theorem zbH{P:Program}{fn:Func}{tmps:Array Value}{a:Nat}{t:TypeId}{p:Addr}{v:Value}{w:World}(hr:fn.results = #[.cell a t])(hp:tmps.getD a undef = .pointer (some p))
 (hL:(loadVar t p).run P w = .ok v w):(results fn tmps).run P w = .ok v w:=by
 have hp2:(asAddr (.pointer (some p))).run P w = .ok p w:=by simp[asAddr,go_sem]
 have hp':tmps[a]?.getD undef = .pointer (some p):=by simpa using hp
 unfold results;rw[hr];simp[hp',hp2,hL]
theorem yV{P:Program}{fn:Func}{tmps:Array Value}{a b:Nat}{t:TypeId}{p:Addr}{v u:Value}{w:World}(hr:fn.results = #[.cell a t,.tmp b])(hp:tmps.getD a undef = .pointer (some p))(hu:tmps.getD b undef=u)
 (hL:(loadVar t p).run P w = .ok v w):(results fn tmps).run P w = .ok (.tuple #[v,u]) w:=by
 have hp2:(asAddr (.pointer (some p))).run P w = .ok p w:=by simp[asAddr,go_sem]
 have hp':tmps[a]?.getD undef = .pointer (some p):=by simpa using hp
 have hu':tmps[b]?.getD undef=u:=by simpa using hu
 unfold results;rw[hr];simp[hp',hu',hp2,hL]
theorem zkO:∀(l:List S14.C),∀u∈zdB l,u.oneCell'=true:=fun l u hu=>by
 unfold zdB at hu;obtain⟨x,hx,hm⟩:=List.mem_flatten.1 hu;obtain⟨c,_,rfl⟩:=List.mem_map.1 hx;simp only[yB,List.mem_cons,zbZ,or_false]at hm;rcases hm with rfl|rfl|rfl|rfl|rfl|rfl<;>rfl
theorem PCs_one:∀(ps:List S14.P) (ys:List Lay),∀u∈PCs ps ys,u.oneCell'=true
 | [],_,u,hu=>by simp[PCs]at hu
 | _::_,[],u,hu=>by simp[PCs]at hu
 | p::ps,y::ys,u,hu=>by
   rcases List.mem_append.1 (show u∈yG p y++PCs ps ys from hu)with h|h
   ·exact zbD p y u h
   ·exact PCs_one ps ys u h
theorem zkN(l:List Nat):∀u∈zeS l,u.oneCell'=true:=fun u hu=>by
 obtain⟨x,_,rfl⟩:=List.mem_map.1 hu;rfl
theorem Cts14_one(l:List (Int×Int)):∀u∈Cts l,u.oneCell'=true:=fun u hu=>by
 unfold Cts at hu;obtain⟨x,_,hm⟩:=List.mem_flatMap.1 hu;simp only[List.mem_cons,zbZ,or_false]at hm;rcases hm with rfl|rfl<;>rfl
theorem zgI:Elems Tryz.prog 22 54 6 48 [.int .i64 0,.int .i64 0,.int .i64 0,.int .i64 0,.int .i64 0,.int .i64 0]:=⟨Tryz.underlying22,by kernel_rfl,rfl,by decide⟩
theorem zgH:Elems Tryz.prog 23 83 16 240 (yG S14.P0 zeZ):=⟨Tryz.underlying23,by kernel_rfl,rfl,by decide⟩
theorem elems_u32:Elems Tryz.prog 24 109 1 4 [.int .u32 0]:=⟨Tryz.underlying24,by kernel_rfl,rfl,by decide⟩
theorem elems_ctrs14:Elems Tryz.prog 73 170 2 16 [.int .i64 0,.int .i64 0]:=⟨Tryz.underlying73,by kernel_rfl,rfl,by decide⟩
theorem zjS(vals:List Value)(n:Nat)(hl:vals.length=n*6)(hone:∀u∈vals,u.oneCell'=true)(g o:Nat)(cap:Nat)(w:World)(h1:1≤n)(h2:n≤100000)(hrd:Rd w (some ⟨g,o,none⟩) vals) :
 Calls Tryz.prog 42 #[.slice (some ⟨g,o,none⟩) n cap] w fun e w'=>∃b cap',e = .returned (.slice b n cap')∧w'.ownsRow w.heap.size 54 6 (.slice b n cap') n vals∧Below w.heap.size w w':=by
 have qT:∀(w:World) (a:Option Addr) (n c n' c':Nat),(binOp .eql 22 (.slice a n c) (.slice none n' c')).run Tryz.prog w = .ok (.bool a.isNone) w:=fun w a n c n' c'=>Lib.run_eql_slice_nil w _ _ a n c n' c' Tryz.underlying22;have hrd':=zD (hrd.step ((zJ w.heap.size w).alloc (zF _) (Obj.cells #[] 54)));have Hl:=zD hl;clear hl;go_enter Tryz.func42,Tryz.ntmps42;go_wp2_with (at_builtin;refine zaZ _ _ 22 54 6 48 _ w.heap.size zgI rfl rfl _ 0 [] rfl (World.ownsRow_made w #[] 0 (zF _) (by decide) rfl) (some ⟨g,o,none⟩) n cap vals rfl Hl.out hrd'.out hone (by unfold maxLen;omega) (by omega) (by simp) ?_;intro a2 cap2 w2 hown2 hgrow2);have hB2:Below w.heap.size w w2:=Below.grown (by go_grown) hgrow2 (by simp) (fun k e=>by cases e;exact zF _);simp only[yP,lna]at hown2;have hc:=zD hown2;clear hgrow2 hown2;go_wp2;go_returns;exact⟨a2,cap2,by simp,hc.out,hB2⟩
theorem cloneParts14(vals:List Value)(n:Nat)(hl:vals.length=n*16)(hone:∀u∈vals,u.oneCell'=true)(g o:Nat)(cap:Nat)(w:World)(h1:1≤n)(h2:n≤100000)(hrd:Rd w (some ⟨g,o,none⟩) vals) :
 Calls Tryz.prog 88 #[.slice (some ⟨g,o,none⟩) n cap] w fun e w'=>∃b cap',e = .returned (.slice b n cap')∧w'.ownsRow w.heap.size 83 16 (.slice b n cap') n vals∧Below w.heap.size w w':=by
 have qT:∀(w:World) (a:Option Addr) (n c n' c':Nat),(binOp .eql 23 (.slice a n c) (.slice none n' c')).run Tryz.prog w = .ok (.bool a.isNone) w:=fun w a n c n' c'=>Lib.run_eql_slice_nil w _ _ a n c n' c' Tryz.underlying23;have hrd':=zD (hrd.step ((zJ w.heap.size w).alloc (zF _) (Obj.cells #[] 83)));have Hl:=zD hl;clear hl;go_enter Tryz.func88,Tryz.ntmps88;go_wp2_with (at_builtin;refine zaZ _ _ 23 83 16 240 _ w.heap.size zgH rfl rfl _ 0 [] rfl (World.ownsRow_made w #[] 0 (zF _) (by decide) rfl) (some ⟨g,o,none⟩) n cap vals rfl Hl.out hrd'.out hone (by unfold maxLen;omega) (by omega) (by simp) ?_;intro a2 cap2 w2 hown2 hgrow2);have hB2:Below w.heap.size w w2:=Below.grown (by go_grown) hgrow2 (by simp) (fun k e=>by cases e;exact zF _);simp only[yP,lna]at hown2;have hc:=zD hown2;clear hgrow2 hown2;go_wp2;go_returns;exact⟨a2,cap2,by simp,hc.out,hB2⟩
theorem zmB(vals:List Value)(n:Nat)(hl:vals.length=n*1)(hone:∀u∈vals,u.oneCell'=true)(g o:Nat)(cap:Nat)(w:World)(h1:1≤n)(h2:n≤100000)(hrd:Rd w (some ⟨g,o,none⟩) vals) :
 Calls Tryz.prog 60 #[.slice (some ⟨g,o,none⟩) n cap] w fun e w'=>∃b cap',e = .returned (.slice b n cap')∧w'.ownsRow w.heap.size 109 1 (.slice b n cap') n vals∧Below w.heap.size w w':=by
 have qT:∀(w:World) (a:Option Addr) (n c n' c':Nat),(binOp .eql 24 (.slice a n c) (.slice none n' c')).run Tryz.prog w = .ok (.bool a.isNone) w:=fun w a n c n' c'=>Lib.run_eql_slice_nil w _ _ a n c n' c' Tryz.underlying24;have hrd':=zD (hrd.step ((zJ w.heap.size w).alloc (zF _) (Obj.cells #[] 109)));have Hl:=zD hl;clear hl;go_enter Tryz.func60,Tryz.ntmps60;go_wp2_with (at_builtin;refine zaZ _ _ 24 109 1 4 _ w.heap.size elems_u32 rfl rfl _ 0 [] rfl (World.ownsRow_made w #[] 0 (zF _) (by decide) rfl) (some ⟨g,o,none⟩) n cap vals rfl Hl.out hrd'.out hone (by unfold maxLen;omega) (by omega) (by simp) ?_;intro a2 cap2 w2 hown2 hgrow2);have hB2:Below w.heap.size w w2:=Below.grown (by go_grown) hgrow2 (by simp) (fun k e=>by cases e;exact zF _);simp only[yP,lna]at hown2;have hc:=zD hown2;clear hgrow2 hown2;go_wp2;go_returns;exact⟨a2,cap2,by simp,hc.out,hB2⟩
theorem cloneCtrs14(vals:List Value)(n:Nat)(hl:vals.length=n*2)(hone:∀u∈vals,u.oneCell'=true)(g o:Nat)(cap:Nat)(w:World)(h1:1≤n)(h2:n≤100000)(hrd:Rd w (some ⟨g,o,none⟩) vals) :
 Calls Tryz.prog 197 #[.slice (some ⟨g,o,none⟩) n cap] w fun e w'=>∃b cap',e = .returned (.slice b n cap')∧w'.ownsRow w.heap.size 170 2 (.slice b n cap') n vals∧Below w.heap.size w w':=by
 have qT:∀(w:World) (a:Option Addr) (n c n' c':Nat),(binOp .eql 73 (.slice a n c) (.slice none n' c')).run Tryz.prog w = .ok (.bool a.isNone) w:=fun w a n c n' c'=>Lib.run_eql_slice_nil w _ _ a n c n' c' Tryz.underlying73;have hrd':=zD (hrd.step ((zJ w.heap.size w).alloc (zF _) (Obj.cells #[] 170)));have Hl:=zD hl;clear hl;go_enter Tryz.func197,Tryz.ntmps197;go_wp2_with (at_builtin;refine zaZ _ _ 73 170 2 16 _ w.heap.size elems_ctrs14 rfl rfl _ 0 [] rfl (World.ownsRow_made w #[] 0 (zF _) (by decide) rfl) (some ⟨g,o,none⟩) n cap vals rfl Hl.out hrd'.out hone (by unfold maxLen;omega) (by omega) (by simp) ?_;intro a2 cap2 w2 hown2 hgrow2);have hB2:Below w.heap.size w w2:=Below.grown (by go_grown) hgrow2 (by simp) (fun k e=>by cases e;exact zF _);simp only[yP,lna]at hown2;have hc:=zD hown2;clear hgrow2 hown2;go_wp2;go_returns;exact⟨a2,cap2,by simp,hc.out,hB2⟩
theorem zmY(F:FuncId)(hF:∀args w,(callFunc F args).run Tryz.prog w = .ok (.enter F args) w)(c:Value)(test:Int×Int→Bool)(w:World)(xs:List (Int×Int))
 (hv:∀x W,Below w.heap.size w W→Calls Tryz.prog F #[.agg #[.int .i64 x.1,.int .i64 x.2],c] W fun e w'=>e = .returned (.bool (test x))∧Below W.heap.size W w') (a:Option Addr) (cap:Nat) (hlen:xs.length≤100000) (hrd:Rd w a (Cts xs)) :
 Calls Tryz.prog 206 #[.slice a xs.length cap,.func (.func F) #[] #[c]] w fun e w'=>∃r:Int,e = .returned (.int .i64 r)∧decide (0≤r)=xs.any test∧Below w.heap.size w w':=by
 have Hv:=zD hv;clear hv;go_enter Tryz.func206,Tryz.ntmps206;go_wp2;go_loopw [8] (fun i wr=>∃k:Nat,k≤xs.length∧i = .int .i64 k∧(xs.take k).any test=false∧Below w.heap.size w wr) (fun i _=>xs.length-(intOf i).toNat)
 case atStart=>exact⟨0,by omega,rfl,rfl,zJ _ _⟩
 case round=>
  obtain⟨k,hk,rfl,hno,hB⟩:=hrel;have zr:w.heap.size≤wr.heap.size:=hB.size;have Hno:=zD hno;clear hno;by_cases hlt:k<xs.length
  ·obtain⟨g,o,rfl,hcs⟩:=(hrd.step hB) (fun e=>by have:=yQ List.length e;rw[zbQ]at this;simp at this;omega);have hc0:=hcs (k*2) _ (zfN hlt).1;have hc1:=hcs (k*2+1) _ (zfN hlt).2;have HT:=zD (Hv.out xs[k] wr hB);have Hs:=zD (zbC test xs k hlt);have Ha:=zD (zcX test xs k hlt);obtain⟨x,hx⟩:∃x,xs[k]=x:=⟨_,rfl⟩;rw[hx]at hc0 hc1 HT Hs Ha;clear hcs hx;obtain⟨x0,x1⟩:=x;simp only at hc0 hc1 HT;rw[←Nat.add_assoc]at hc1;cases ht:test (x0,x1)with
   | true=>
     have Hany:=zD (Ha.out ht);rw[ht]at HT;clear ht;go_wp2_with fail;refine HT.out.mono ?_;rintro e w1 ⟨rfl,hb1⟩;have hB1:=zA hB hb1;go_wp2;go_returns;exact⟨_,rfl,by rw[Hany.out];simp,hB1⟩
   | false=>
     have Hn:=zD (show(xs.take (k+1)).any test=false by rw[Hs.out,Hno.out,ht];rfl);rw[ht]at HT;clear ht;go_wp2_with fail;refine HT.out.mono ?_;rintro e w1 ⟨rfl,hb1⟩;have hB1:=zA hB hb1;go_wp2;go_roundw
     case rel=>exact⟨k+1,by omega,by go_num,Hn.out,hB1⟩
     case measure=>simp[intOf];omega
  ·obtain rfl:k=xs.length:=by omega
   go_wp2;go_returns;refine⟨_,rfl,?_,hB⟩;have:=Hno.out;rw[zcD]at this;rw[this];rfl
theorem ziV(F:FuncId)(hF:∀args w,(callFunc F args).run Tryz.prog w = .ok (.enter F args) w)(c:Value)(test:Int×Int→Bool)(w:World)(xs:List (Int×Int))
 (hv:∀x W,Below w.heap.size w W→Calls Tryz.prog F #[.agg #[.int .i64 x.1,.int .i64 x.2],c] W fun e w'=>e = .returned (.bool (test x))∧Below W.heap.size W w') (a:Option Addr) (cap:Nat) (hlen:xs.length≤100000) (hrd:Rd w a (Cts xs)) :
 Calls Tryz.prog 200 #[.slice a xs.length cap,.func (.func F) #[] #[c]] w fun e w'=>e = .returned (.bool (xs.any test))∧Below w.heap.size w w':=by
 have HI:=zD (zmY F hF c test w xs hv a cap hlen hrd);clear hv;obtain⟨b,hb⟩:∃b,xs.any test=b:=⟨_,rfl⟩;rw[hb]at HI⊢;clear hb;go_enter Tryz.func200,Tryz.ntmps200;go_wp2_with fail;refine HI.out.mono ?_;rintro e w1 ⟨r,rfl,hr,hb1⟩;go_wp2;go_returns;exact⟨by first|rfl|exact yT hr,hb1⟩
def S14.badC(limit:Int)(c:Int×Int):Bool:=decide (S08.check c.1 c.2 limit≠0)
theorem badC14_any(limit:Int)(x:Int×Int)(B:Nat)(w:World)(hB:w.cell? ⟨B,0,none⟩=some (.int .i64 limit)) :
 Calls Tryz.prog 201 #[.agg #[.int .i64 x.1,.int .i64 x.2],.pointer (some ⟨B,0,none⟩)] w fun e w'=>e = .returned (.bool (S14.badC limit x))∧Below w.heap.size w w':=by
 have HC:=zD fun W=>zcO x.1 x.2 limit W;have hlB:=zI hB;unfold S14.badC;obtain⟨x0,x1⟩:=x;simp only at HC hlB⊢;obtain⟨r,hr⟩:∃r,S08.check x0 x1 limit=r:=⟨_,rfl⟩;rw[hr]at HC⊢;clear hr;go_enter Tryz.func201,Tryz.ntmps201;go_wp2_with fail;refine(HC.out _).mono ?_;rintro e w1 ⟨rfl,hb1⟩;have hB1:Below w.heap.size w w1:=zA (by go_grown) hb1;go_wp2;go_returns;exact⟨yT (by by_cases h:r=0<;>simp[h]),hB1⟩
theorem zeV(xs:List (Int×Int))(n:Nat)(limit:Int)(a:Option Addr)(cap:Nat)(w:World)(hn:n≤65536)(hrd:Rd w a (Cts xs)) :
 Calls Tryz.prog 195 #[.slice a xs.length cap,.int .i64 (n:Int),.int .i64 limit] w fun e w'=>e = .returned (.bool (decide (xs.length=n) && !xs.any (S14.badC limit)))∧Below w.heap.size w w':=by
 have B1:Below w.heap.size w (w.alloc (.cells #[.int .i64 limit] 3)):=(zJ _ _).alloc (zF _) _;have k1:Blk (w.alloc (.cells #[.int .i64 limit] 3)) w.heap.size [.int .i64 limit] 3:=Blk.new w _ _;by_cases hl:xs.length=n
 ·have HC:=zD (ziV 201 (enters_of Tryz.func201 (by kernel_rfl) rfl) (.pointer (some ⟨w.heap.size,0,none⟩)) (S14.badC limit) (w.alloc (.cells #[.int .i64 limit] 3)) xs
   (fun x W hW=>badC14_any limit x w.heap.size W ((k1.step hW).cell 0)) a cap (by omega) (hrd.step B1))
  obtain⟨q,hq⟩:∃q,xs.any (S14.badC limit)=q:=⟨_,rfl⟩;rw[hq]at HC⊢;rw[zO hl,zaY];rw[hl]at HC⊢;clear hl hq hrd;have e1:((n:Int)==(n:Int))=true:=by simp
  go_enter Tryz.func195,Tryz.ntmps195;go_wp2_with fail;refine HC.out.mono ?_;rintro e w1 ⟨rfl,hb1⟩;have hB1:=zA B1 hb1;go_wp2;go_returns;exact⟨rfl,hB1⟩
 ·rw[zK hl,Bool.false_and];have e1:((xs.length:Int)==(n:Int))=false:=by simp;omega
  go_enter Tryz.func195,Tryz.ntmps195;go_wp2;go_returns;exact⟨rfl,B1⟩
def VV(N:S14.N)(L:NLay)(k:Nat)(b:Value):Value:=.agg #[.slice L.a1 N.comps.length L.c1,.slice L.a2 N.parts.length L.c2,.slice L.a3 N.ctxs.length L.c3,.int .i64 N.part,.int .i64 (k:Int),b]
theorem zfP(N:S14.N)(L:NLay)(k:Nat)(b:Value)(hb:b.oneCell'=true)(w:World)(hN:NIs N L w)(hk:k<N.parts.length)(p:S14.P)(y:Lay)(hp:N.parts[k]? = some p)(hy:L.ys[k]? = some y) :
 Calls Tryz.prog 176 #[VV N L k b] w fun e w'=>e = .returned (PV p y)∧Below w.heap.size w w':=by
 obtain⟨bb,o,p',y',hL2,hp',hy',hcs,hP⟩:=hN.part_at hk;rw[hp]at hp';rw[hy]at hy';cases hp';cases hy';unfold VV;rw[hL2];have hkz:(k:Int)<(N.parts.length:Int):=by omega
 have hPl:some 16=some (yG p y).length:=rfl;have hPl2:(yG S14.P0 zeZ).length=(yG p y).length:=rfl;have h1:=zbD p y;unfold PV;obtain⟨nc,hnc⟩:∃n,N.comps.length=n:=⟨_,rfl⟩;obtain⟨np,hnp⟩:∃n,N.parts.length=n:=⟨_,rfl⟩;obtain⟨nx,hnx⟩:∃n,N.ctxs.length=n:=⟨_,rfl⟩;obtain⟨pt,hpt⟩:∃n,N.part=n:=⟨_,rfl⟩;rw[hnp]at hkz;rw[hnc,hnp,hnx,hpt];clear hnc hnp hnx hpt hk hN;obtain⟨Q,hQ⟩:∃Q,yG p y=Q:=⟨_,rfl⟩;rw[hQ]at hcs hPl hPl2 h1⊢;clear hQ hP hp hy;obtain⟨W1,hW1⟩:∃W1,(w.alloc (.cells #[.slice L.a1 nc L.c1,.slice (some ⟨bb,o,none⟩) np L.c2,.slice L.a3 nx L.c3,.int .i64 pt,.int .i64 (k:Int),b] 104)).alloc (.cells zP 83)=W1:=⟨_,rfl⟩;have k1:Blk W1 w.heap.size [.slice L.a1 nc L.c1,.slice (some ⟨bb,o,none⟩) np L.c2,.slice L.a3 nx L.c3,.int .i64 pt,.int .i64 (k:Int),b] 104:=by rw[←hW1];exact(Blk.new w _ _).alloc _
 have k2:Blk W1 (w.heap.size+1) (yG S14.P0 zeZ) 83:=by
  rw[←hW1];have h:=zhK (w.alloc (.cells #[.slice L.a1 nc L.c1,.slice (some ⟨bb,o,none⟩) np L.c2,.slice L.a3 nx L.c3,.int .i64 pt,.int .i64 (k:Int),b] 104));rwa[zZ]at h
 have B1:Below w.heap.size w W1:=by rw[←hW1];exact((zJ _ _).alloc (zF _) _).alloc (by simp) _
 have hcs1:=yU hcs B1;have e1:=k1.cell 1;have e4:=k1.cell 4;simp only[zpC]at e1 e4;go_enter Tryz.func176,Tryz.ntmps176;go_wp2_with (first
  | (refine zaV 83 zP zeR (by rfl) (by rfl) ?_;rw[hW1])
  | (refine wpList_load_mid (by rfl) 83 (.tmp 8) (by rfl) bb (o+k*16) (by rfl) Q _ hcs1 Tryz.underlying83 rfl (info_P.trans hPl) ?_)
  | (refine yD 83 (.tmp 2) (.tmp 9) (by rfl) (by rfl) (w.heap.size+1) (by rfl) Q (by rfl) _ 83 k2 (info_P.trans hPl) hPl2 h1 ?_;intro wL EL gL sL))
 have hL:=run_loadVar_mid wL _ 0 _ _ _ EL.cells Tryz.underlying83 rfl (info_P.trans hPl);refine bodyPost_ret (v:=.agg Q.toArray) ?_ rfl ?_
 ·exact zbH (show Tryz.f176.results = #[.cell 2 83]from rfl) (p:=⟨w.heap.size+1,0,none⟩) rfl hL
 ·exact⟨rfl,B1.trans (yC gL (by omega) B1.size)⟩
theorem zkS(N:S14.N)(L:NLay)(k:Nat)(b:Value)(w:World)(hN:NIs N L w)(hk:k<N.ctxs.length)(pt:Nat)(hpt:N.part=(pt:Int))(hpt2:pt<4294967296) :
 Calls Tryz.prog 67 #[VV N L k b] w fun e w'=>e = .returned (.int .u32 (S14.hash (N.ctxs.getD k 0) pt:Int))∧Below w.heap.size w w':=by
 obtain⟨bb,o,hL3,hx,hlt⟩:=hN.ctx_at hk;have HH:=zD fun W=>hash14_any (N.ctxs.getD k 0) pt hlt hpt2 W;unfold VV;rw[hL3,hpt];have hkz:(k:Int)<(N.ctxs.length:Int):=by omega
 obtain⟨nc,hnc⟩:∃n,N.comps.length=n:=⟨_,rfl⟩;obtain⟨np,hnp⟩:∃n,N.parts.length=n:=⟨_,rfl⟩;obtain⟨nx,hnx⟩:∃n,N.ctxs.length=n:=⟨_,rfl⟩;obtain⟨c,hc⟩:∃c,N.ctxs.getD k 0=c:=⟨_,rfl⟩;obtain⟨H,hH⟩:∃H,S14.hash c pt=H:=⟨_,rfl⟩;rw[hc]at hx HH hlt⊢;rw[hH]at HH⊢;rw[hnx]at hkz;rw[hnc,hnp,hnx];clear hnc hnp hnx hc hH hk hN hpt;obtain⟨W1,hW1⟩:∃W1,w.alloc (.cells #[.slice L.a1 nc L.c1,.slice L.a2 np L.c2,.slice (some ⟨bb,o,none⟩) nx L.c3,.int .i64 (pt:Int),.int .i64 (k:Int),b] 104)=W1:=⟨_,rfl⟩;have k1:Blk W1 w.heap.size [.slice L.a1 nc L.c1,.slice L.a2 np L.c2,.slice (some ⟨bb,o,none⟩) nx L.c3,.int .i64 (pt:Int),.int .i64 (k:Int),b] 104:=by rw[←hW1];exact Blk.new w _ _
 have B1:Below w.heap.size w W1:=by rw[←hW1];exact(zJ _ _).alloc (zF _) _
 have hx1:=(B1.cell (zI hx)).trans hx;go_enter Tryz.func67,Tryz.ntmps67;go_wp2_with (rw[hW1]);have hCS:Cells W1 [(⟨w.heap.size,2,none⟩,.slice (some ⟨bb,o,none⟩) nx L.c3),(⟨w.heap.size,3,none⟩,.int .i64 (pt:Int)),(⟨w.heap.size,4,none⟩,.int .i64 (k:Int)),(⟨bb,o+k,none⟩,.int .u32 (c:Int))]:=⟨k1.cell 2,k1.cell 3,k1.cell 4,hx1,yJ⟩;refine zpD 11 1 [(U,[U,U,U,U,U,U,U,U,U,U]),(zoZ,[zoZ,zoZ,zoZ,zoZ,zoZ,zoZ,zoZ,zoZ,zoZ,zoZ,U])] (Keeps W1 [(⟨w.heap.size,2,none⟩,.slice (some ⟨bb,o,none⟩) nx L.c3),(⟨w.heap.size,3,none⟩,.int .i64 (pt:Int)),(⟨w.heap.size,4,none⟩,.int .i64 (k:Int)),(⟨bb,o+k,none⟩,.int .u32 (c:Int))]) (by kernel_rfl) (Keeps.start hCS) (fun Y Q4 F4 hY hF=> ?_);simp only[zpB]
 repeat
  apply zE (by rw[hY];rfl)
  ·intro w2 hS2;(try simp only[Keeps,Cells]at hS2);go_simp;with_reducible rfl
  simp only[zpA]
 apply zS (by rw[hY];rfl)
 ·go_simp;with_reducible exact⟨rfl,rfl⟩
 refine(HH.out _).mono ?_;rintro e w2 ⟨rfl,hb2⟩;have hk2:=(Keeps.start hCS).step hb2;refine⟨_,rfl,hk2,?_⟩;simp only[zpA];refine zV (hF.out _ _ (fun K hK=> ?_));clear hF hY;have hB2:=zA B1 hk2.1;go_wp2_with fail;refine OnlyK.mk (hK.out _ _ ?_);clear hK hk2;go_wp2;go_returns;exact⟨rfl,hB2⟩
theorem zlR(N:S14.N)(L:NLay)(k:Nat)(b:Value)(w:World)(hN:NIs N L w)(hk:k<N.ctxs.length)(pt:Nat)(hpt:N.part=(pt:Int))(hpt2:pt<4294967296)(c:S14.C)(hc:N.comps[k]? = some c)(n:Nat)(hn:c.bits=(n:Int))(hn2:n≤16) :
 Calls Tryz.prog 193 #[VV N L k b] w fun e w'=>e = .returned (.int .i64 (S14.index (N.ctxs.getD k 0) pt n:Int))∧Below w.heap.size w w':=by
 have HH:=zD fun(W:World) (hW:Below w.heap.size w W)=>zkS N L k b W (hN.step hW) hk pt hpt hpt2;obtain⟨bb,o,hL1,hE⟩:=hN.comp_at hc;have hkz:(k:Int)<(N.comps.length:Int):=by have:=(List.getElem?_eq_some_iff.1 hc).1;omega
 have hx:=hE.e1;rw[hn]at hx;unfold S14.index;have hlt:=S14.hash_lt (N.ctxs.getD k 0) pt;unfold VV at HH⊢;rw[hL1,hpt]at HH⊢;obtain⟨nc,hnc⟩:∃n,N.comps.length=n:=⟨_,rfl⟩;obtain⟨np,hnp⟩:∃n,N.parts.length=n:=⟨_,rfl⟩;obtain⟨nx,hnx⟩:∃n,N.ctxs.length=n:=⟨_,rfl⟩;obtain⟨H,hH⟩:∃H,S14.hash (N.ctxs.getD k 0) pt=H:=⟨_,rfl⟩;rw[hH]at HH hlt⊢;rw[hnc]at hkz;rw[hnc,hnp,hnx]at HH⊢;clear hnc hnp hnx hH hk hN hpt hE hc hn;obtain⟨W1,hW1⟩:∃W1,w.alloc (.cells #[.slice (some ⟨bb,o,none⟩) nc L.c1,.slice L.a2 np L.c2,.slice L.a3 nx L.c3,.int .i64 (pt:Int),.int .i64 (k:Int),b] 104)=W1:=⟨_,rfl⟩;have k1:Blk W1 w.heap.size [.slice (some ⟨bb,o,none⟩) nc L.c1,.slice L.a2 np L.c2,.slice L.a3 nx L.c3,.int .i64 (pt:Int),.int .i64 (k:Int),b] 104:=by rw[←hW1];exact Blk.new w _ _
 have B1:Below w.heap.size w W1:=by rw[←hW1];exact(zJ _ _).alloc (zF _) _
 have hx1:=(B1.cell (zI hx)).trans hx;have hw1:IntKind.i64.wrap (32-(n:Int))=((32-n:Nat):Int):=by rw[IntWalk.i64_in _ (by omega)];omega
 have hw2:IntKind.u64.wrap (H:Int)=(H:Int):=by rw[IntKind.wrap_u64];omega
 have hq:H/2^(32-n)≤H:=Nat.div_le_self _ _;have hdv:(H:Int)/2^(32-n)=((H/2^(32-n):Nat):Int):=by simp
 obtain⟨q,hqe⟩:∃q,H/2^(32-n)=q:=⟨_,rfl⟩;rw[hqe]at hq hdv⊢;have hw3:IntKind.i64.wrap (q:Int)=(q:Int):=IntWalk.i64_in _ (by omega);have hdw:=zD (hdv▸hw3:IntKind.i64.wrap ((H:Int)/2^(32-n))=((q:Nat):Int));clear hqe hdv;go_enter Tryz.func193,Tryz.ntmps193;go_wp2_with (rw[hW1]);have hCS:Cells W1 [(⟨w.heap.size,0,none⟩,.slice (some ⟨bb,o,none⟩) nc L.c1),(⟨w.heap.size,1,none⟩,.slice L.a2 np L.c2),(⟨w.heap.size,2,none⟩,.slice L.a3 nx L.c3),(⟨w.heap.size,3,none⟩,.int .i64 (pt:Int)),(⟨w.heap.size,4,none⟩,.int .i64 (k:Int)),(⟨w.heap.size,5,none⟩,b),(⟨bb,o+k*6+1,none⟩,.int .i64 (n:Int))]:=⟨k1.cell 0,k1.cell 1,k1.cell 2,k1.cell 3,k1.cell 4,k1.cell 5,hx1,yJ⟩;refine zpD 14 1 [(U,[U,zoZ,zoZ,U,U,U,U,U,U,U,U,U]),(zoZ,[zoZ,U]),(U,[zoZ,zoZ,U,zoZ,zoZ,zoZ,zoZ,zoZ,zoZ,zoZ,zoZ,zoZ,U,U])] (Keeps W1 [(⟨w.heap.size,0,none⟩,.slice (some ⟨bb,o,none⟩) nc L.c1),(⟨w.heap.size,1,none⟩,.slice L.a2 np L.c2),(⟨w.heap.size,2,none⟩,.slice L.a3 nx L.c3),(⟨w.heap.size,3,none⟩,.int .i64 (pt:Int)),(⟨w.heap.size,4,none⟩,.int .i64 (k:Int)),(⟨w.heap.size,5,none⟩,b),(⟨bb,o+k*6+1,none⟩,.int .i64 (n:Int))]) (by kernel_rfl) (Keeps.start hCS) (fun Y Q4 F4 hY hF=> ?_);simp only[zpB]
 repeat
  apply zE (by rw[hY];rfl)
  ·intro w2 hS2;(try simp only[Keeps,Cells]at hS2);go_simp;with_reducible rfl
  simp only[zpA]
 apply zS (by rw[hY];rfl)
 ·go_simp;with_reducible exact⟨rfl,rfl⟩
 refine(HH.out _ (zA B1 (Keeps.start hCS).1)).mono ?_;rintro e w2 ⟨rfl,hb2⟩;have hk2:=(Keeps.start hCS).step hb2;refine⟨_,rfl,hk2,?_⟩;simp only[zpA]
 repeat
  apply zE (by rw[hY];rfl)
  ·intro w2 hS2;(try simp only[Keeps,Cells]at hS2);go_simp;with_reducible rfl
  simp only[zpA]
 rw[hdw.out];refine zV (hF.out _ _ (fun K hK=> ?_));clear hF hY;have hB2:=zA B1 hk2.1;go_wp2_with fail;refine OnlyK.mk (hK.out _ _ ?_);clear hK hk2;go_wp2;go_returns;exact⟨rfl,hB2⟩
def S14.outs(O:Nat→List Int→Int):Nat→List Int
 | 0=>[]
 | k+1=>S14.outs O k ++ [O k (S14.outs O k)]
theorem S14.outs_length(O:Nat→List Int→Int):∀k,(S14.outs O k).length=k
 | 0=>rfl
 | k+1=>by rw[S14.outs,List.length_append,S14.outs_length O k];rfl
def OutF(c:S14.C):FuncId:=
 if c.kind=0 then 174 else if c.kind=1 then 187 else if c.kind=2 then 216 else if c.kind=3 then 232 else if c.kind=4 then 259 else if c.kind=5 then 267 else 287
def zfQ(N:S14.N)(L:NLay)(w:World)(O:Nat→List Int→Int):Prop:=
 ∀(k:Nat) (c:S14.C),N.comps[k]? = some c→∀(bef:List Int) (a:Option Addr) (W:World),Below w.heap.size w W→Rd W a (zbU bef)→bef.length=k→(∀x∈bef,-3071≤x∧x≤3071)→
  (Calls Tryz.prog (OutF c) #[CV c,VV N L k (.slice a k k)] W fun e w'=>e = .returned (.int .i64 (O k bef))∧Below W.heap.size W w')∧ -3071≤O k bef∧O k bef≤3071
theorem ziY(v:Value)(w:World):(nilAhead 410 115 v "compactor/network.output").run Tryz.prog w = .ok (some false) w:=by kernel_rfl
theorem zjY(v:Value)(w:World):(method 410 115 v "compactor/network.output").run Tryz.prog w = .ok (174,v) w:=by kernel_rfl
theorem zmH(v:Value)(w:World):(nilAhead 410 116 v "compactor/network.output").run Tryz.prog w = .ok (some false) w:=by kernel_rfl
theorem zmX(v:Value)(w:World):(method 410 116 v "compactor/network.output").run Tryz.prog w = .ok (187,v) w:=by kernel_rfl
theorem zkH(v:Value)(w:World):(nilAhead 410 117 v "compactor/network.output").run Tryz.prog w = .ok (some false) w:=by kernel_rfl
theorem zlL(v:Value)(w:World):(method 410 117 v "compactor/network.output").run Tryz.prog w = .ok (216,v) w:=by kernel_rfl
theorem zkG(v:Value)(w:World):(nilAhead 410 118 v "compactor/network.output").run Tryz.prog w = .ok (some false) w:=by kernel_rfl
theorem zlK(v:Value)(w:World):(method 410 118 v "compactor/network.output").run Tryz.prog w = .ok (232,v) w:=by kernel_rfl
theorem zkI(v:Value)(w:World):(nilAhead 410 119 v "compactor/network.output").run Tryz.prog w = .ok (some false) w:=by kernel_rfl
theorem zlM(v:Value)(w:World):(method 410 119 v "compactor/network.output").run Tryz.prog w = .ok (259,v) w:=by kernel_rfl
theorem znE(v:Value)(w:World):(nilAhead 410 120 v "compactor/network.output").run Tryz.prog w = .ok (some false) w:=by kernel_rfl
theorem zoN(v:Value)(w:World):(method 410 120 v "compactor/network.output").run Tryz.prog w = .ok (267,v) w:=by kernel_rfl
theorem zkF(v:Value)(w:World):(nilAhead 410 121 v "compactor/network.output").run Tryz.prog w = .ok (some false) w:=by kernel_rfl
theorem zlJ(v:Value)(w:World):(method 410 121 v "compactor/network.output").run Tryz.prog w = .ok (287,v) w:=by kernel_rfl
theorem mk0_14(n:Nat)(hn:n≤200)(w:World):(Instr.makeSlice 39 (.int .i64 0) (.int .i64 (n:Int))).run Tryz.prog w = .ok (.slice (some ⟨w.heap.size,0,none⟩) 0 n) (w.alloc (.cells (List.replicate n (.int .i64 0)).toArray 3)):=by
 obtain⟨i,z',hi,hz,hsz,hby,hzs,hzc⟩:=elems_ints.open;have hr:=run_make (P:=Tryz.prog) w 39 3 i z' elems_ints.1 hi hz .i64 .i64 0 n (by omega) (by omega) (by rw[hby];omega) (by omega);simp only[Int.toNat_natCast]at hr;have hc:z'.cells = #[.int .i64 0]:=by
  apply Array.ext';rw[hzc]
 have hm:madeCells z'.cells (n*i.size)=(List.replicate n (Value.int .i64 0)).toArray:=by
  rw[hsz,Nat.mul_one,hc];apply Array.ext';rw[toList_madeCells_one]
 rw[hm]at hr;exact hr
theorem zoI(N:S14.N)(L:NLay)(O:Nat→List Int→Int)(w:World)(hN:NIs N L w)(hl:N.comps.length≤16)(hk6:∀c∈N.comps,0≤c.kind∧c.kind≤6)(HK:zfQ N L w O) :
 Calls Tryz.prog 53 #[NV N L] w fun e w'=>∃a cap,e = .returned (.slice a N.comps.length cap)∧Rd w' a (zbU (S14.outs O N.comps.length))∧(∀g o,a=some ⟨g,o,none⟩→w.heap.size≤g)∧N.comps.length≤cap∧Below w.heap.size w w':=by
 have HN:=zD hN;have HO:=zD fun(x:S14.C) W=>(show Calls Tryz.prog 43 #[.agg #[.int .i64 x.kind,.int .i64 x.bits,.int .i64 x.limit,.int .i64 x.rate,.int .i64 x.first,.int .i64 x.second]] W _ from zeJ x W);have HH:=zD HK;have Hk6:=zD hk6;unfold NV zaI;have Hnc:=zD (rfl:N.comps.length=N.comps.length);obtain⟨nc,hnc⟩:∃n,N.comps.length=n:=⟨_,rfl⟩;obtain⟨np,hnp⟩:∃n,N.parts.length=n:=⟨_,rfl⟩;obtain⟨nx,hnx⟩:∃n,N.ctxs.length=n:=⟨_,rfl⟩;obtain⟨pt,hpt⟩:∃n,N.part=n:=⟨_,rfl⟩;rw[hnc]at hl;rw[hnc,hnp,hnx,hpt];unfold zfQ VV at HH;rw[hnc,hnp,hnx,hpt]at HH;have Hnc2:=zD hnc;clear hnc hnp hnx hpt hN HK hk6 Hnc;obtain⟨W0,hW0⟩:∃W0,w.alloc (.cells #[.slice L.a1 nc L.c1,.slice L.a2 np L.c2,.slice L.a3 nx L.c3,.int .i64 pt] 26)=W0:=⟨_,rfl⟩;have k0:Blk W0 w.heap.size [.slice L.a1 nc L.c1,.slice L.a2 np L.c2,.slice L.a3 nx L.c3,.int .i64 pt] 26:=by rw[←hW0];exact Blk.new w _ _
 have z0:W0.heap.size=w.heap.size+1:=by rw[←hW0];simp
 have B0:Below w.heap.size w W0:=by rw[←hW0];exact(zJ _ _).alloc (zF _) _
 have hmk:=mk0_14 nc (by omega) W0;obtain⟨W1,hW1⟩:∃W1,W0.alloc (.cells (List.replicate nc (.int .i64 0)).toArray 3)=W1:=⟨_,rfl⟩;obtain⟨G,hG⟩:∃G,w.heap.size+1=G:=⟨_,rfl⟩;have hown:W1.ownsRow G 3 1 (.slice (some ⟨G,0,none⟩) 0 nc) 0 (zbU (S14.outs O 0)):=by
  rw[←hW1,←hG,←z0];exact World.ownsRow_made W0 _ nc (zF _) (by unfold maxLen;omega) (by simp)
 have hb1:Below W0.heap.size W0 W1:=by rw[←hW1];exact(zJ _ _).alloc (zF _) _
 have k1:=k0.step hb1;have B1:=zA B0 hb1;have hz1:G≤W1.heap.size:=by rw[←hG,←z0];exact hb1.size
 rw[hW1,z0,hG]at hmk;clear hb1 hW1 B0;have c00:=k0.cell 0;have c10:=k1.cell 0;simp only[lgz]at c00 c10;go_enter Tryz.func53,Tryz.ntmps53;go_wp2_with (rw[hW0]);clear k0 c00 hW0 z0 hmk c10
 go_loopw [3,13] (fun v i wr=>∃(k:Nat) (a:Option Addr) (c:Nat),k≤nc∧i = .int .i64 (k:Int)∧v = .slice a k c∧Hid (wr.ownsRow G 3 1 (.slice a k c) k (zbU (S14.outs O k)))∧Hid (∀x∈S14.outs O k,-3071≤x∧x≤3071)∧
  Blk wr w.heap.size [.slice L.a1 nc L.c1,.slice L.a2 np L.c2,.slice L.a3 nx L.c3,.int .i64 pt] 26∧Below w.heap.size w wr∧G≤wr.heap.size) (fun _ i _=>nc-(intOf i).toNat)
 case atStart=>exact⟨0,_,nc,by omega,rfl,rfl,zD hown,zD (fun x hx=>by cases hx),k1,B1,hz1⟩
 case round=>
  clear hown k1 B1 hz1;obtain⟨k,a,c,hk,rfl,rfl,hown,hin,k0,hB,hz⟩:=hrel;by_cases hlt:k<nc
  ·have hkz:(k:Int)<(nc:Int):=by omega
   obtain⟨x,hx⟩:∃x,N.comps[k]? = some x:=⟨_,zG (by have:=Hnc2.out;omega)⟩;obtain⟨g,o,hga,x0,x1,x2,x3,x4,x5⟩:=(HN.out.step hB).comp_at hx;have Hx:=zD hx;have hkd:=Hk6.out x (yL hx);obtain⟨hkc,hcm⟩:k≤c∧c≤maxLen:=by
    obtain⟨a0,c0,e,h1,h2⟩:=zbA hown.out;simp only[Value.slice.injEq]at e;omega
   have hkcz:(k:Int)≤(c:Int):=by omega
   rw[hga]at k0 HH⊢;obtain⟨W5,hW5⟩:∃W5,wr.alloc (.cells #[.int .i64 x.kind,.int .i64 x.bits,.int .i64 x.limit,.int .i64 x.rate,.int .i64 x.first,.int .i64 x.second] 54)=W5:=⟨_,rfl⟩;obtain⟨Q,hQ⟩:∃Q,wr.heap.size=Q:=⟨_,rfl⟩;have kQ:Blk W5 Q [.int .i64 x.kind,.int .i64 x.bits,.int .i64 x.limit,.int .i64 x.rate,.int .i64 x.first,.int .i64 x.second] 54:=by rw[←hW5,←hQ];exact Blk.new wr _ _
   have hb5:Below wr.heap.size wr W5:=by rw[←hW5];exact(zJ _ _).alloc (zF _) _
   have k05:=k0.step hb5;have B5:=zA hB hb5;have hz5:G≤W5.heap.size:=yF hz hb5.size;have hown5:=yO (B:=0) hown.out hb5;have Hown5:=zD hown5
   have hCS:Cells W5 [(⟨Q,0,none⟩,.int .i64 x.kind),(⟨Q,1,none⟩,.int .i64 x.bits),(⟨Q,2,none⟩,.int .i64 x.limit),(⟨Q,3,none⟩,.int .i64 x.rate),(⟨Q,4,none⟩,.int .i64 x.first),(⟨Q,5,none⟩,.int .i64 x.second),(⟨w.heap.size,0,none⟩,.slice (some ⟨g,o,none⟩) nc L.c1),(⟨w.heap.size,1,none⟩,.slice L.a2 np L.c2),(⟨w.heap.size,2,none⟩,.slice L.a3 nx L.c3),(⟨w.heap.size,3,none⟩,.int .i64 pt)]:=
    ⟨kQ.cell 0,kQ.cell 1,kQ.cell 2,kQ.cell 3,kQ.cell 4,kQ.cell 5,k05.cell 0,k05.cell 1,k05.cell 2,k05.cell 3,yJ⟩
   have c00:=k0.cell 0;simp only[lgz]at c00;clear hown5 hb5 k0;go_wp2_with (first|(rw[hW5,hQ])|(rw[hW5])|fail);have hX:=HH.out k x Hx.out (S14.outs O k) a W5 B5 (Rd.of_owns Hown5.out) (S14.outs_length O k) hin.out;have HRG:=zD hX.2;have hX2:=fun(W:World) (hW:Below W5.heap.size W5 W)=>(HH.out k x Hx.out (S14.outs O k) a W (zA B5 hW) (Rd.of_owns (yO (B:=0) Hown5.out hW)) (S14.outs_length O k) hin.out).1;obtain⟨R,hR⟩:∃R,O k (S14.outs O k)=R:=⟨_,rfl⟩;rw[hR]at hX2 HRG;have HR:=zD hR;clear hX hR;unfold CV yB at hX2;have hof0:OfV x=OfV x:=rfl;have Hof:=zD (show∀V,OfV x=V→OfV x=V from fun _ h=>h);unfold OutF at hX2;obtain⟨TT,FF,hof,hX3,hen,hme,hah⟩:∃(TT:TypeId) (FF:FuncId),OfV x = .iface TT (.agg #[.int .i64 x.kind,.int .i64 x.bits,.int .i64 x.limit,.int .i64 x.rate,.int .i64 x.first,.int .i64 x.second])∧(∀W,Below W5.heap.size W5 W→Calls Tryz.prog FF #[.agg #[.int .i64 x.kind,.int .i64 x.bits,.int .i64 x.limit,.int .i64 x.rate,.int .i64 x.first,.int .i64 x.second],.agg #[.slice (some ⟨g,o,none⟩) nc L.c1,.slice L.a2 np L.c2,.slice L.a3 nx L.c3,.int .i64 pt,.int .i64 (k:Int),.slice a k k]] W fun e w'=>e = .returned (.int .i64 R)∧Below W.heap.size W w')∧(∀args w,(callFunc FF args).run Tryz.prog w = .ok (.enter FF args) w)∧(∀w,(method 410 TT (.agg #[.int .i64 x.kind,.int .i64 x.bits,.int .i64 x.limit,.int .i64 x.rate,.int .i64 x.first,.int .i64 x.second]) "compactor/network.output").run Tryz.prog w = .ok (FF,(.agg #[.int .i64 x.kind,.int .i64 x.bits,.int .i64 x.limit,.int .i64 x.rate,.int .i64 x.first,.int .i64 x.second])) w)∧(∀w,(nilAhead 410 TT (.agg #[.int .i64 x.kind,.int .i64 x.bits,.int .i64 x.limit,.int .i64 x.rate,.int .i64 x.first,.int .i64 x.second]) "compactor/network.output").run Tryz.prog w = .ok (some false) w):=by
    by_cases k0:x.kind=0
    ·refine⟨115,174,?_,?_,enters_of Tryz.func174 (by kernel_rfl) rfl,zjY _,ziY _⟩
     ·unfold OfV CV yB;simp only[k0];rfl
     ·intro W hW;have:=hX2 W hW;simp only[k0]at this⊢;exact this
    by_cases k1:x.kind=1
    ·refine⟨116,187,?_,?_,enters_of Tryz.func187 (by kernel_rfl) rfl,zmX _,zmH _⟩
     ·unfold OfV CV yB;simp only[k1];rfl
     ·intro W hW;have:=hX2 W hW;simp only[k1]at this⊢;exact this
    by_cases k2:x.kind=2
    ·refine⟨117,216,?_,?_,enters_of Tryz.func216 (by kernel_rfl) rfl,zlL _,zkH _⟩
     ·unfold OfV CV yB;simp only[k2];rfl
     ·intro W hW;have:=hX2 W hW;simp only[k2]at this⊢;exact this
    by_cases k3:x.kind=3
    ·refine⟨118,232,?_,?_,enters_of Tryz.func232 (by kernel_rfl) rfl,zlK _,zkG _⟩
     ·unfold OfV CV yB;simp only[k3];rfl
     ·intro W hW;have:=hX2 W hW;simp only[k3]at this⊢;exact this
    by_cases k4:x.kind=4
    ·refine⟨119,259,?_,?_,enters_of Tryz.func259 (by kernel_rfl) rfl,zlM _,zkI _⟩
     ·unfold OfV CV yB;simp only[k4];rfl
     ·intro W hW;have:=hX2 W hW;simp only[k4]at this⊢;exact this
    by_cases k5:x.kind=5
    ·refine⟨120,267,?_,?_,enters_of Tryz.func267 (by kernel_rfl) rfl,zoN _,znE _⟩
     ·unfold OfV CV yB;simp only[k5];rfl
     ·intro W hW;have:=hX2 W hW;simp only[k5]at this⊢;exact this
    by_cases k6:x.kind=6
    ·refine⟨121,287,?_,?_,enters_of Tryz.func287 (by kernel_rfl) rfl,zlJ _,zkF _⟩
     ·unfold OfV CV yB;simp only[k6];rfl
     ·intro W hW;have:=hX2 W hW;simp only[k6]at this⊢;exact this
    omega
   have HX:=zD hX3;clear hX2 hX3 hof0 Hof;go_wp2_with fail;refine zpD 16 1 [(U,[U,U,zoZ,U,U,U,U,U,U,U]),(zoZ,[zoZ,zoZ,U]),(U,[zoZ,zoZ,zoZ,zoZ,zoZ,zoZ,zoZ,zoZ,zoZ,zoZ,U,U,U]),(zoZ,[zoZ,zoZ,zoZ,zoZ,zoZ,zoZ,zoZ,zoZ,zoZ,zoZ,zoZ,zoZ,zoZ,U]),(zoZ,[zoZ,zoZ,zoZ,zoZ,zoZ,zoZ,zoZ,zoZ,zoZ,zoZ,zoZ,zoZ,zoZ,zoZ,U]),(zoZ,[zoZ,zoZ,zoZ,zoZ,zoZ,zoZ,zoZ,zoZ,zoZ,zoZ,zoZ,zoZ,zoZ,zoZ,zoZ,U])] (fun K=>Below G W5 K∧Cells K [(⟨Q,0,none⟩,.int .i64 x.kind),(⟨Q,1,none⟩,.int .i64 x.bits),(⟨Q,2,none⟩,.int .i64 x.limit),(⟨Q,3,none⟩,.int .i64 x.rate),(⟨Q,4,none⟩,.int .i64 x.first),(⟨Q,5,none⟩,.int .i64 x.second),(⟨w.heap.size,0,none⟩,.slice (some ⟨g,o,none⟩) nc L.c1),(⟨w.heap.size,1,none⟩,.slice L.a2 np L.c2),(⟨w.heap.size,2,none⟩,.slice L.a3 nx L.c3),(⟨w.heap.size,3,none⟩,.int .i64 pt)]) (by kernel_rfl) (⟨(zJ _ _).drew,hCS⟩) (fun Y Q4 F4 hY hF=> ?_);simp only[zpB]
   repeat
    apply zE (by rw[hY];rfl)
    ·intro w2 hS2;(try simp only[Keeps,Cells]at hS2);go_simp;with_reducible rfl
    simp only[zpA]
   apply zS (by rw[hY];rfl)
   ·go_simp;with_reducible exact⟨rfl,rfl⟩
   refine(HO.out x _).mono ?_;rintro e w6 ⟨rfl,hb6⟩;have hb56:Below W5.heap.size W5 w6:=zA ((zJ _ _).drew) hb6;have hcs6:Cells w6 [(⟨Q,0,none⟩,.int .i64 x.kind),(⟨Q,1,none⟩,.int .i64 x.bits),(⟨Q,2,none⟩,.int .i64 x.limit),(⟨Q,3,none⟩,.int .i64 x.rate),(⟨Q,4,none⟩,.int .i64 x.first),(⟨Q,5,none⟩,.int .i64 x.second),(⟨w.heap.size,0,none⟩,.slice (some ⟨g,o,none⟩) nc L.c1),(⟨w.heap.size,1,none⟩,.slice L.a2 np L.c2),(⟨w.heap.size,2,none⟩,.slice L.a3 nx L.c3),(⟨w.heap.size,3,none⟩,.int .i64 pt)]:=Cells.step hb56 hCS;refine⟨_,rfl,⟨hb56.mono hz5,hcs6⟩,?_⟩;simp only[zpA];rw[hof]
   repeat
    apply zE (by rw[hY];rfl)
    ·intro w2 hS2;(try simp only[Keeps,Cells]at hS2);go_simp;with_reducible rfl
    simp only[zpA]
   apply zS (by rw[hY];rfl)
   ·go_simp;first|with_reducible exact⟨rfl,rfl⟩|with_reducible rfl
   refine(HX.out w6 hb56).mono ?_;rintro e w7 ⟨rfl,hb7⟩;have hcs7:Cells w7 [(⟨Q,0,none⟩,.int .i64 x.kind),(⟨Q,1,none⟩,.int .i64 x.bits),(⟨Q,2,none⟩,.int .i64 x.limit),(⟨Q,3,none⟩,.int .i64 x.rate),(⟨Q,4,none⟩,.int .i64 x.first),(⟨Q,5,none⟩,.int .i64 x.second),(⟨w.heap.size,0,none⟩,.slice (some ⟨g,o,none⟩) nc L.c1),(⟨w.heap.size,1,none⟩,.slice L.a2 np L.c2),(⟨w.heap.size,2,none⟩,.slice L.a3 nx L.c3),(⟨w.heap.size,3,none⟩,.int .i64 pt)]:=Cells.step hb7 hcs6;have hb57:Below W5.heap.size W5 w7:=zA hb56 hb7;refine⟨_,rfl,⟨hb57.mono hz5,hcs7⟩,?_⟩;simp only[zpA];have hb8:Below w7.heap.size w7 (w7.alloc (.cells #[.int .i64 R] 3)):=(zJ _ _).alloc (zF _) _;have hb58:=zA hb57 hb8;have hcs8:=Cells.step hb8 hcs7;have hown8:=yO (B:=0) Hown5.out hb58;have hrd8:Rd (w7.alloc (.cells #[.int .i64 R] 3)) (some ⟨w7.heap.size,0,none⟩) (zbU [R]):=(fun _=>⟨_,0,rfl,(Blk.new w7 [.int .i64 R] 3).cells⟩);have kQ8:=kQ.step hb58;have k08:=k05.step hb58;have hz8:G≤(w7.alloc (.cells #[.int .i64 R] 3)).heap.size:=yF hz5 hb58.size;have Hh8:=zD hown8;have Hr8:=zD hrd8;clear hown8 hrd8;refine zbS (by rw[hY];rfl) (by go_simp;first|with_reducible exact⟨rfl,rfl⟩|with_reducible rfl) ((show Below G W5 (w7.alloc (.cells #[.int .i64 R] 3))∧Cells (w7.alloc (.cells #[.int .i64 R] 3)) [(⟨Q,0,none⟩,.int .i64 x.kind),(⟨Q,1,none⟩,.int .i64 x.bits),(⟨Q,2,none⟩,.int .i64 x.limit),(⟨Q,3,none⟩,.int .i64 x.rate),(⟨Q,4,none⟩,.int .i64 x.first),(⟨Q,5,none⟩,.int .i64 x.second),(⟨w.heap.size,0,none⟩,.slice (some ⟨g,o,none⟩) nc L.c1),(⟨w.heap.size,1,none⟩,.slice L.a2 np L.c2),(⟨w.heap.size,2,none⟩,.slice L.a3 nx L.c3),(⟨w.heap.size,3,none⟩,.int .i64 pt)]from⟨hb58.mono hz5,hcs8⟩)) ?_;simp only[zpA];generalize w7.alloc (.cells #[.int .i64 R] 3)=w8 at *;refine zjC (.tmp 18) (.tmp 32) 39 3 1 8 _ G elems_ints (.slice a k c) k (zbU (S14.outs O k)) (some ⟨w7.heap.size,0,none⟩) 1 1 (zbU [R]) (by rw[hY];rfl) rfl rfl rfl rfl (Ints_one [R]) (by unfold maxLen;omega) (by omega) Hh8.out Hr8.out hz8 ?_;intro a9 c9 w9 hown9 hg9;have hne:=zgY Hh8.out kQ8 (by decide);have hne0:=zgY Hh8.out k08 (by decide);have kQ9:=kQ8.keptRow hg9 (Ne.symm hne);have k09:=k08.keptRow hg9 (Ne.symm hne0);have hB9:Below G w8 w9:=Below.grown (zJ _ _) hg9 hz8 (fun r e=>(zcN Hh8.out e).1);have hB59:Below G W5 w9:=(hb58.mono hz5).trans hB9;have hres:w9.ownsRow G 3 1 (.slice a9 (k+1) c9) (k+1) (zbU (S14.outs O (k+1))):=by
    rw[S14.outs,HR.out];have e:zbU (S14.outs O k ++ [R])=zbU (S14.outs O k)++zbU [R]:=by unfold zbU;rw[List.map_append]
    rw[e];exact hown9
   have Hres:=zD hres;refine⟨⟨hB59,kQ9.cell 0,kQ9.cell 1,kQ9.cell 2,kQ9.cell 3,kQ9.cell 4,kQ9.cell 5,k09.cell 0,k09.cell 1,k09.cell 2,k09.cell 3,yJ⟩,?_⟩;simp only[zpA];have hzB:Below w.heap.size w w9:=B5.trans (hB59.mono (by omega));have hz9:=hB59.size;clear hown9 hres hg9 hne hne0;refine zV (hF.out _ _ (fun K hK=> ?_));clear hF hY;go_wp2_with fail;refine OnlyK.mk (hK.out _ _ ?_);clear hK;go_wp2;go_roundw
   case rel=>
    refine⟨k+1,a9,c9,by omega,by simp,rfl,Hres.out |> zD,zD (fun y hy=> ?_),k09,hzB,by omega⟩;rw[S14.outs]at hy;rcases List.mem_append.1 hy with h|h
    ·exact hin.out y h
    ·rw[List.mem_singleton.1 h];rw[HR.out];exact HRG.out
   case measure=>simp[intOf];omega
  ·obtain rfl:k=nc:=by omega
   have hres:=zD (Rd.of_owns hown.out);have hkc:k≤c:=by
    obtain⟨a0,c0,e,h1,h2⟩:=zbA hown.out;simp only[Value.slice.injEq]at e;omega
   have Hfar:=zD (show∀g o,a=some ⟨g,o,none⟩→w.heap.size≤g from fun g o e=>by
    have:=(hown.out.lt g (by rw[e];rfl)).1;omega)
   go_wp2;go_returns;exact⟨a,c,rfl,hres.out,Hfar.out,hkc,hB⟩
namespace S14
def noM(m:S12.M):Bool:=m.bits==0&&m.least==0&&m.at_==0&&m.len==0&&m.part==0&&m.bit==0&&decide (m.heads.length+m.bytes.length+m.ctrs.length=0)
def bare(p:P):Bool:=decide (p.ctrs.length=0)&&p.sb==0&&decide (p.sd.length=0)&&p.slot==0&&noM p.m&&p.mi==0&&decide (p.mw.length=0)&&decide (p.ac.length=0)
def okCtrs(l:List (Int×Int))(n:Nat)(limit:Int):Bool:=decide (l.length=n) && !l.any (fun c=>decide (S08.check c.1 c.2 limit≠0))
def zM:S12.M:=⟨0,0,[],[],0,0,0,0,[]⟩
def right(c:C)(p:P)(pt:Int):Bool:=
 if c.kind=0 then bare p
 else if c.kind=1 then bare {p with ctrs:=[]}&&okCtrs p.ctrs (2^c.bits.toNat) c.limit
 else if c.kind=2 then okCtrs p.ctrs 215 c.limit&&p.sb==c.bits&&decide (S10.check p.sb p.sd=0)&&has p.slot 0 (2^c.bits.toNat-1)&&bare {p with ctrs:=[],sb:=0,sd:=[],slot:=0}
 else if c.kind=3 then bare {p with m:=zM}&&p.m.bits==c.bits&&p.m.least==c.limit&&p.m.part==pt&&decide (S12.check p.m=0)
 else if c.kind=4 then bare p
 else if c.kind=5 then bare {p with mi:=0,mw:=[]}&&p.mi==c.second-c.first+1&&decide ((p.mw.length:Int)=2^c.bits.toNat)&&decide (S13.check 16 p.mi p.mw=0)
 else if c.kind=6 then bare {p with ac:=[]}&&decide ((p.ac.length:Int)=33*2^c.bits.toNat)&&decide (S11.check p.ac=0)
 else false
def at_(N:N)(k:Nat)(c:C):Nat:=index (N.ctxs.getD k 0) N.part.toNat c.bits.toNat
def ctr(p:P)(i:Nat):Int×Int:=p.ctrs.getD i (0,0)
def probe(p:P)(i:Nat):Int:=S06.stretch (S08.predict (ctr p i).1 (ctr p i).2)
end S14
theorem zeC{P:Program}{w:World}{o:Oper}{a:Act}(T:TypeId)(x:Operand)(ho:o.op = .load T x)(b off:Nat)(hx:a.eval x = .pointer (some ⟨b,off,none⟩))(cs:List Value)(hc:w.rangeAt b off cs)(d:TypeDesc)(hu:P.underlying T=some d)(hd:d.isRow=true)(hi:(P.info? T).map (·.size)=some cs.length) :
 (execOp a.eval o).run P w = .ok (.value (.agg cs.toArray)) w:=by
 unfold execOp;simp only[ho,hx,Instr.loadAt,Instr.sureAddr,Sem.run_bind,Sem.run_pure,Result.andThen_ok,run_loadVar_mid w b off T cs d hc hu hd hi]
def S14.allRight(N:S14.N):Prop:=∀(k:Nat) (c:S14.C) (p:S14.P),N.comps[k]? = some c→N.parts[k]? = some p→S14.right c p N.part=true
open Classical in
noncomputable def S14.checkNet(N:S14.N):Int:=if S14.check N.comps≠0 then S14.check N.comps else if N.parts.length≠N.comps.length∨N.ctxs.length≠16 then 6 else if S14.has N.part 1 255=false then 2 else if S14.allRight N then 0 else 3
def zeY(c:S14.C):FuncId:=
 if c.kind=0 then 175 else if c.kind=1 then 188 else if c.kind=2 then 217 else if c.kind=3 then 233 else if c.kind=4 then 260 else if c.kind=5 then 268 else 288
def zcQ(N:S14.N)(L:NLay)(w:World):Prop:=
 ∀(k:Nat) (c:S14.C) (p:S14.P) (y:Lay),N.comps[k]? = some c→S14.ok c (k:Int)=true→N.parts[k]? = some p→L.ys[k]? = some y→∀W,Below w.heap.size w W→
  Calls Tryz.prog (zeY c) #[CV c,PV p y,.int .i64 N.part] W fun e w'=>e = .returned (.bool (S14.right c p N.part))∧Below W.heap.size W w'
theorem zgK(v:Value)(w:World):(nilAhead 410 115 v "compactor/network.right").run Tryz.prog w = .ok (some false) w:=by kernel_rfl
theorem zhC(v:Value)(w:World):(method 410 115 v "compactor/network.right").run Tryz.prog w = .ok (175,v) w:=by kernel_rfl
theorem ziX(v:Value)(w:World):(nilAhead 410 116 v "compactor/network.right").run Tryz.prog w = .ok (some false) w:=by kernel_rfl
theorem zjX(v:Value)(w:World):(method 410 116 v "compactor/network.right").run Tryz.prog w = .ok (188,v) w:=by kernel_rfl
theorem zhP(v:Value)(w:World):(nilAhead 410 117 v "compactor/network.right").run Tryz.prog w = .ok (some false) w:=by kernel_rfl
theorem ziK(v:Value)(w:World):(method 410 117 v "compactor/network.right").run Tryz.prog w = .ok (217,v) w:=by kernel_rfl
theorem zhO(v:Value)(w:World):(nilAhead 410 118 v "compactor/network.right").run Tryz.prog w = .ok (some false) w:=by kernel_rfl
theorem ziJ(v:Value)(w:World):(method 410 118 v "compactor/network.right").run Tryz.prog w = .ok (233,v) w:=by kernel_rfl
theorem zhQ(v:Value)(w:World):(nilAhead 410 119 v "compactor/network.right").run Tryz.prog w = .ok (some false) w:=by kernel_rfl
theorem ziL(v:Value)(w:World):(method 410 119 v "compactor/network.right").run Tryz.prog w = .ok (260,v) w:=by kernel_rfl
theorem zkE(v:Value)(w:World):(nilAhead 410 120 v "compactor/network.right").run Tryz.prog w = .ok (some false) w:=by kernel_rfl
theorem zlI(v:Value)(w:World):(method 410 120 v "compactor/network.right").run Tryz.prog w = .ok (268,v) w:=by kernel_rfl
theorem zhN(v:Value)(w:World):(nilAhead 410 121 v "compactor/network.right").run Tryz.prog w = .ok (some false) w:=by kernel_rfl
theorem ziI(v:Value)(w:World):(method 410 121 v "compactor/network.right").run Tryz.prog w = .ok (288,v) w:=by kernel_rfl
theorem S14.check_zero_N{l:List S14.C}(h:S14.check l=0):1≤l.length∧l.length≤16∧∀(k:Nat) (x:S14.C),l[k]? = some x→S14.ok x (k:Int)=true:=by
 unfold S14.check at h;split at h
 ·cases h
 ·split at h
  ·rename_i h1 h2
   exact⟨by omega,by omega,(S14.allOk_iff l).1 h2⟩
  ·cases h
theorem zdW(N:S14.N)(L:NLay)(w:World)(hN:NIs N L w)(hl1:N.comps.length≤4611686018427387904)(HR:zcQ N L w) :
 Calls Tryz.prog 18 #[NV N L] w fun e w'=>e = .returned (.int .i64 (S14.checkNet N))∧Below w.heap.size w w':=by
 have B0:Below w.heap.size w (w.alloc (.cells (zaI N L).toArray 26)):=(zJ _ _).alloc (zF _) _;have HC:=zD fun(W:World) (hW:Below w.heap.size w W)=>zmD N.comps L.a1 L.c1 W hl1 (hN.rc.step hW);have HBw:=zD fun W=>zaF N.part 1 255 W;have HN:=zD hN;have HRH:=zD HR;have HO:=zD fun(x:S14.C) W=>(show Calls Tryz.prog 43 #[.agg #[.int .i64 x.kind,.int .i64 x.bits,.int .i64 x.limit,.int .i64 x.rate,.int .i64 x.first,.int .i64 x.second]] W _ from zeJ x W);obtain⟨R,hR⟩:∃R,S14.checkNet N=R:=⟨_,rfl⟩;rw[hR];unfold S14.checkNet at hR;have HZ:=zD (fun h=>S14.check_zero_N (l:=N.comps) h);obtain⟨E,hE⟩:∃E,S14.check N.comps=E:=⟨_,rfl⟩;rw[hE]at hR HC HZ;obtain⟨inr,hinr⟩:∃b,S14.has N.part 1 255=b:=⟨_,rfl⟩;rw[hinr]at hR HBw;unfold NV zaI at *;obtain⟨nc,hnc⟩:∃n,N.comps.length=n:=⟨_,rfl⟩;obtain⟨np,hnp⟩:∃n,N.parts.length=n:=⟨_,rfl⟩;obtain⟨nx,hnx⟩:∃n,N.ctxs.length=n:=⟨_,rfl⟩;obtain⟨pt,hpt⟩:∃n,N.part=n:=⟨_,rfl⟩;rw[hnc,hnp,hnx]at hR;rw[hnc]at HZ HC;rw[hnc,hnp,hnx,hpt]at B0;rw[hpt]at HBw;rw[hnc,hnp,hnx,hpt];have Hnc:=zD hnc;have Hnp:=zD hnp;have Hpt:=zD hpt;clear hnc hnp hnx hpt hN HR hE hinr hl1;obtain⟨W0,hW0⟩:∃W0,w.alloc (.cells #[.slice L.a1 nc L.c1,.slice L.a2 np L.c2,.slice L.a3 nx L.c3,.int .i64 pt] 26)=W0:=⟨_,rfl⟩;have k0:Blk W0 w.heap.size [.slice L.a1 nc L.c1,.slice L.a2 np L.c2,.slice L.a3 nx L.c3,.int .i64 pt] 26:=by rw[←hW0];exact Blk.new w _ _
 rw[show([.slice L.a1 nc L.c1,.slice L.a2 np L.c2,.slice L.a3 nx L.c3,.int .i64 pt]:List Value).toArray = #[.slice L.a1 nc L.c1,.slice L.a2 np L.c2,.slice L.a3 nx L.c3,.int .i64 pt]from rfl,hW0]at B0;have HC0:=zD (HC.out W0 B0);clear HC;by_cases hE0:E=0
 ·subst hE0;obtain⟨h1c,h16c,hok⟩:=HZ.out rfl;have Hok:=zD hok;rw[zR (by simp)]at hR;clear HZ hok;by_cases hnp:np=nc
  ·by_cases hnx:nx=16
   ·rw[zR (by omega)]at hR;have e1:((np:Int) != (nc:Int))=false:=by simp[hnp]
    have e2:((nx:Int) != 16)=false:=by simp[hnx]
    have Hnp2:=zD hnp;clear hnp hnx;cases inr with
    | false=>
      rw[zY rfl]at hR;subst hR;have c0:=k0.cell 0;have c1:=k0.cell 1;have c2:=k0.cell 2;have c3:=k0.cell 3;simp only[zpC]at c0 c1 c2 c3;go_enter Tryz.func18,Tryz.ntmps18;go_wp2_with (rw[hW0]);refine HC0.out.mono ?_;rintro e w1 ⟨rfl,hb1⟩;have k1:=k0.step hb1;have B1:=zA B0 hb1;clear c0 c1 c2 c3 k0;have k0:=k1;have c0:=k0.cell 0;have c1:=k0.cell 1;have c2:=k0.cell 2;have c3:=k0.cell 3;simp only[zpC]at c0 c1 c2 c3;go_wp2_with fail;refine(HBw.out _).mono ?_;rintro e w2 ⟨rfl,hb2⟩;have B2:=zA B1 hb2;go_wp2;go_returns;exact⟨rfl,B2⟩
    | true=>
      rw[zR (by simp)]at hR;have HR2:=zD hR;clear hR;have c0:=k0.cell 0;have c1:=k0.cell 1;have c2:=k0.cell 2;have c3:=k0.cell 3;simp only[zpC]at c0 c1 c2 c3;go_enter Tryz.func18,Tryz.ntmps18;go_wp2_with (rw[hW0]);refine HC0.out.mono ?_;rintro e w1 ⟨rfl,hb1⟩;have k1:=k0.step hb1;have B1:=zA B0 hb1;clear c0 c1 c2 c3 k0;have k0:=k1;have c0:=k0.cell 0;have c1:=k0.cell 1;have c2:=k0.cell 2;have c3:=k0.cell 3;simp only[zpC]at c0 c1 c2 c3;go_wp2_with fail;refine(HBw.out _).mono ?_;rintro e w2 ⟨rfl,hb2⟩;have k2:=k1.step hb2;have B2:=zA B1 hb2;clear c0 c1 c2 c3 k0;have k0:=k2;have c0:=k0.cell 0;have c1:=k0.cell 1;have c2:=k0.cell 2;have c3:=k0.cell 3;simp only[zpC]at c0 c1 c2 c3;go_wp2_with fail;clear c0 c1 c2 c3 k0 e1 e2
      go_loopw [34] (fun i wr=>∃(k:Nat),k≤nc∧i = .int .i64 (k:Int)∧Hid (∀(j:Nat) (c:S14.C) (p:S14.P),j<k→N.comps[j]? = some c→N.parts[j]? = some p→S14.right c p pt=true)∧
       Blk wr w.heap.size [.slice L.a1 nc L.c1,.slice L.a2 np L.c2,.slice L.a3 nx L.c3,.int .i64 pt] 26∧Below w.heap.size w wr) (fun i _=>nc-(intOf i).toNat)
      case atStart=>exact⟨0,by omega,rfl,zD (fun j c p hj=>by omega),k2,B2⟩
      case round=>
       clear k1 k2 B1 B2;obtain⟨k,hk,rfl,hall,k0,hB⟩:=hrel;by_cases hlt:k<nc
       ·have hkz:(k:Int)<(nc:Int):=by omega
        have hkz2:(k:Int)<(np:Int):=by have:=Hnp2.out;omega
        obtain⟨x,hx⟩:∃x,N.comps[k]? = some x:=⟨_,zG (by have:=Hnc.out;omega)⟩;obtain⟨g,o,hga,x0,x1,x2,x3,x4,x5⟩:=(HN.out.step hB).comp_at hx;obtain⟨g2,o2,p,y,hga2,hp,hy,hrgP,hPI⟩:=HN.out.part_at (k:=k) (by have:=Hnp.out;have:=Hnp2.out;omega);have Hx:=zD hx;have Hp:=zD hp;have hokx:=Hok.out k x hx;have hkd:=(S14.ok_is hokx).kind;have hX2:=fun(W:World) (hW:Below w.heap.size w W)=>HRH.out k x p y hx hokx hp hy W hW;obtain⟨q,hq⟩:∃q,S14.right x p N.part=q:=⟨_,rfl⟩;rw[hq,Hpt.out]at hX2;rw[Hpt.out]at hq;have Hq:=zD hq
        have HBad:=zD (fun(x':S14.C) (h1:N.comps[k]? = some x') (h2:N.parts[k]? = some p) (h3:S14.right x p pt=false)=>(show R=3 by
         rw[←HR2.out];refine zR (fun hA=> ?_);have:=hA k x p hx hp;rw[Hpt.out,h3]at this;cases this))
        rw[hga2]at k0⊢;rw[hga]at k0⊢;unfold PV at hX2;have hi16:some 16=some (yG p y).length:=rfl;obtain⟨PQ,hPQ⟩:∃PQ,yG p y=PQ:=⟨_,rfl⟩;rw[hPQ]at hX2 hrgP hi16;obtain⟨W5,hW5⟩:∃W5,wr.alloc (.cells #[.int .i64 x.kind,.int .i64 x.bits,.int .i64 x.limit,.int .i64 x.rate,.int .i64 x.first,.int .i64 x.second] 54)=W5:=⟨_,rfl⟩;obtain⟨Q,hQ⟩:∃Q,wr.heap.size=Q:=⟨_,rfl⟩;have kQ:Blk W5 Q [.int .i64 x.kind,.int .i64 x.bits,.int .i64 x.limit,.int .i64 x.rate,.int .i64 x.first,.int .i64 x.second] 54:=by rw[←hW5,←hQ];exact Blk.new wr _ _
        have hb5:Below wr.heap.size wr W5:=by rw[←hW5];exact(zJ _ _).alloc (zF _) _
        have k05:=k0.step hb5;have B5:=zA hB hb5;have hrp:=fun(W:World) (hW:Below W5.heap.size W5 W)=>yU hrgP (zA B5 hW);have hCS:Cells W5 [(⟨Q,0,none⟩,.int .i64 x.kind),(⟨Q,1,none⟩,.int .i64 x.bits),(⟨Q,2,none⟩,.int .i64 x.limit),(⟨Q,3,none⟩,.int .i64 x.rate),(⟨Q,4,none⟩,.int .i64 x.first),(⟨Q,5,none⟩,.int .i64 x.second),(⟨w.heap.size,1,none⟩,.slice (some ⟨g2,o2,none⟩) np L.c2),(⟨w.heap.size,3,none⟩,.int .i64 pt)]:=⟨kQ.cell 0,kQ.cell 1,kQ.cell 2,kQ.cell 3,kQ.cell 4,kQ.cell 5,k05.cell 1,k05.cell 3,yJ⟩;have hX4:=fun(W:World) (hW:Below W5.heap.size W5 W)=>hX2 W (zA B5 hW);have c00:=k0.cell 0;simp only[lgz]at c00;clear hb5 k0 hX2 hPQ hx hp hy hq hrgP hPI;go_wp2_with (first|(rw[hW5,hQ])|(rw[hW5])|fail);unfold CV yB zeY at hX4;obtain⟨TT,FF,hof,hX3,hen,hme,hah⟩:∃(TT:TypeId) (FF:FuncId),OfV x = .iface TT (.agg #[.int .i64 x.kind,.int .i64 x.bits,.int .i64 x.limit,.int .i64 x.rate,.int .i64 x.first,.int .i64 x.second])∧(∀W,Below W5.heap.size W5 W→Calls Tryz.prog FF #[.agg #[.int .i64 x.kind,.int .i64 x.bits,.int .i64 x.limit,.int .i64 x.rate,.int .i64 x.first,.int .i64 x.second],.agg PQ.toArray,.int .i64 pt] W fun e w'=>e = .returned (.bool q)∧Below W.heap.size W w')∧(∀args w,(callFunc FF args).run Tryz.prog w = .ok (.enter FF args) w)∧(∀w,(method 410 TT (.agg #[.int .i64 x.kind,.int .i64 x.bits,.int .i64 x.limit,.int .i64 x.rate,.int .i64 x.first,.int .i64 x.second]) "compactor/network.right").run Tryz.prog w = .ok (FF,(.agg #[.int .i64 x.kind,.int .i64 x.bits,.int .i64 x.limit,.int .i64 x.rate,.int .i64 x.first,.int .i64 x.second])) w)∧(∀w,(nilAhead 410 TT (.agg #[.int .i64 x.kind,.int .i64 x.bits,.int .i64 x.limit,.int .i64 x.rate,.int .i64 x.first,.int .i64 x.second]) "compactor/network.right").run Tryz.prog w = .ok (some false) w):=by
         by_cases k0:x.kind=0
         ·refine⟨115,175,?_,?_,enters_of Tryz.func175 (by kernel_rfl) rfl,zhC _,zgK _⟩
          ·unfold OfV CV yB;simp only[k0];rfl
          ·intro W hW;have:=hX4 W hW;simp only[k0]at this⊢;exact this
         by_cases k1:x.kind=1
         ·refine⟨116,188,?_,?_,enters_of Tryz.func188 (by kernel_rfl) rfl,zjX _,ziX _⟩
          ·unfold OfV CV yB;simp only[k1];rfl
          ·intro W hW;have:=hX4 W hW;simp only[k1]at this⊢;exact this
         by_cases k2:x.kind=2
         ·refine⟨117,217,?_,?_,enters_of Tryz.func217 (by kernel_rfl) rfl,ziK _,zhP _⟩
          ·unfold OfV CV yB;simp only[k2];rfl
          ·intro W hW;have:=hX4 W hW;simp only[k2]at this⊢;exact this
         by_cases k3:x.kind=3
         ·refine⟨118,233,?_,?_,enters_of Tryz.func233 (by kernel_rfl) rfl,ziJ _,zhO _⟩
          ·unfold OfV CV yB;simp only[k3];rfl
          ·intro W hW;have:=hX4 W hW;simp only[k3]at this⊢;exact this
         by_cases k4:x.kind=4
         ·refine⟨119,260,?_,?_,enters_of Tryz.func260 (by kernel_rfl) rfl,ziL _,zhQ _⟩
          ·unfold OfV CV yB;simp only[k4];rfl
          ·intro W hW;have:=hX4 W hW;simp only[k4]at this⊢;exact this
         by_cases k5:x.kind=5
         ·refine⟨120,268,?_,?_,enters_of Tryz.func268 (by kernel_rfl) rfl,zlI _,zkE _⟩
          ·unfold OfV CV yB;simp only[k5];rfl
          ·intro W hW;have:=hX4 W hW;simp only[k5]at this⊢;exact this
         by_cases k6:x.kind=6
         ·refine⟨121,288,?_,?_,enters_of Tryz.func288 (by kernel_rfl) rfl,ziI _,zhN _⟩
          ·unfold OfV CV yB;simp only[k6];rfl
          ·intro W hW;have:=hX4 W hW;simp only[k6]at this⊢;exact this
         omega
        have HX:=zD hX3;clear hX4 hX3 hkd;go_wp2_with fail;refine zpD 14 0 [(U,[U,zoZ,U,U,U,U,U,U,U]),(zoZ,[zoZ,U]),(U,[zoZ,zoZ,zoZ,zoZ,zoZ,zoZ,zoZ,zoZ,zoZ,U,U,U]),(zoZ,[zoZ,zoZ,zoZ,zoZ,zoZ,zoZ,zoZ,zoZ,zoZ,zoZ,zoZ,zoZ,U]),(U,[zoZ,zoZ,zoZ,zoZ,zoZ,zoZ,zoZ,zoZ,zoZ,zoZ,zoZ,zoZ,zoZ,U])] (Keeps W5 [(⟨Q,0,none⟩,.int .i64 x.kind),(⟨Q,1,none⟩,.int .i64 x.bits),(⟨Q,2,none⟩,.int .i64 x.limit),(⟨Q,3,none⟩,.int .i64 x.rate),(⟨Q,4,none⟩,.int .i64 x.first),(⟨Q,5,none⟩,.int .i64 x.second),(⟨w.heap.size,1,none⟩,.slice (some ⟨g2,o2,none⟩) np L.c2),(⟨w.heap.size,3,none⟩,.int .i64 pt)]) (by kernel_rfl) (Keeps.start hCS) (fun Y Q4 F4 hY hF=> ?_);simp only[zpB]
        repeat
         apply zE (by rw[hY];rfl)
         ·intro w2 hS2;(try simp only[Keeps,Cells]at hS2);go_simp;with_reducible rfl
         simp only[zpA]
        repeat
         first
          | (apply zE (by rw[hY];rfl)
             ·intro w2 hS2;exact zeC 83 (.tmp 44) (by rfl) g2 (o2+k*16) (by rfl) PQ (hrp w2 hS2.1) _ Tryz.underlying83 rfl (info_P.trans hi16)
             simp only[zpA])
          | (apply zE (by rw[hY];rfl)
             ·intro w2 hS2;(try simp only[Keeps,Cells]at hS2);go_simp;with_reducible rfl
             simp only[zpA])
        apply zS (by rw[hY];rfl)
        ·go_simp;with_reducible exact⟨rfl,rfl⟩
        refine(HO.out x _).mono ?_;rintro e w6 ⟨rfl,hb6⟩;have hk6:=(Keeps.start hCS).step hb6;refine⟨_,rfl,hk6,?_⟩;simp only[zpA];rw[hof]
        repeat
         apply zE (by rw[hY];rfl)
         ·intro w2 hS2;(try simp only[Keeps,Cells]at hS2);go_simp;with_reducible rfl
         simp only[zpA]
        apply zS (by rw[hY];rfl)
        ·go_simp;first|with_reducible exact⟨rfl,rfl⟩|with_reducible rfl
        refine(HX.out w6 hk6.1).mono ?_;rintro e w7 ⟨rfl,hb7⟩;have hk7:=hk6.step hb7;refine⟨_,rfl,hk7,?_⟩;simp only[zpA]
        repeat
         apply zE (by rw[hY];rfl)
         ·intro w2 hS2;(try simp only[Keeps,Cells]at hS2);go_simp;with_reducible rfl
         simp only[zpA]
        refine zV (hF.out _ _ (fun K hK=> ?_));clear hF hY;refine OnlyK.mk (hK.out _ _ ?_);clear hK;have B7:=zA B5 hk7.1;have k07:=k05.step hk7.1;cases q with
        | false=>
          obtain rfl:=HBad.out x Hx.out Hp.out Hq.out;go_wp2;go_returns;exact⟨rfl,B7⟩
        | true=>
          go_wp2;go_roundw
          case rel=>
           refine⟨k+1,by omega,by simp,zD (fun j c' p' hj h1 h2=> ?_),k07,B7⟩;rcases Nat.lt_succ_iff_lt_or_eq.1 hj with h|rfl
           ·exact hall.out j c' p' h h1 h2
           ·have e1:=Hx.out;rw[h1]at e1;cases e1;have e2:=Hp.out;rw[h2]at e2;cases e2;exact Hq.out
          case measure=>simp[intOf];omega
       ·obtain rfl:k=nc:=by omega
        have hR0:R=0:=by
         rw[←HR2.out];refine zY (fun j c p h1 h2=> ?_);rw[Hpt.out];exact hall.out j c p (by have:=(List.getElem?_eq_some_iff.1 h1).1;have:=Hnc.out;omega) h1 h2
        subst hR0;go_wp2;go_returns;exact⟨rfl,hB⟩
   ·rw[zY (.inr hnx)]at hR;subst hR;have e1:((np:Int) != (nc:Int))=false:=by simp[hnp]
    have e2:((nx:Int) != 16)=true:=by simp;omega
    clear hnp hnx;have c0:=k0.cell 0;have c1:=k0.cell 1;have c2:=k0.cell 2;have c3:=k0.cell 3;simp only[zpC]at c0 c1 c2 c3;go_enter Tryz.func18,Tryz.ntmps18;go_wp2_with (rw[hW0]);refine HC0.out.mono ?_;rintro e w1 ⟨rfl,hb1⟩;have k1:=k0.step hb1;have B1:=zA B0 hb1;clear c0 c1 c2 c3 k0;have k0:=k1;have c0:=k0.cell 0;have c1:=k0.cell 1;have c2:=k0.cell 2;have c3:=k0.cell 3;simp only[zpC]at c0 c1 c2 c3;go_wp2;go_returns;exact⟨rfl,B1⟩
  ·rw[zY (.inl hnp)]at hR;subst hR;have e1:((np:Int) != (nc:Int))=true:=by simp;omega
   clear hnp;have c0:=k0.cell 0;have c1:=k0.cell 1;have c2:=k0.cell 2;have c3:=k0.cell 3;simp only[zpC]at c0 c1 c2 c3;go_enter Tryz.func18,Tryz.ntmps18;go_wp2_with (rw[hW0]);refine HC0.out.mono ?_;rintro e w1 ⟨rfl,hb1⟩;have k1:=k0.step hb1;have B1:=zA B0 hb1;clear c0 c1 c2 c3 k0;have k0:=k1;have c0:=k0.cell 0;have c1:=k0.cell 1;have c2:=k0.cell 2;have c3:=k0.cell 3;simp only[zpC]at c0 c1 c2 c3;go_wp2;go_returns;exact⟨rfl,B1⟩
 ·rw[zY hE0]at hR;subst hR;have e0:(E != 0)=true:=by simp[hE0]
  clear hE0;have c0:=k0.cell 0;have c1:=k0.cell 1;have c2:=k0.cell 2;have c3:=k0.cell 3;simp only[zpC]at c0 c1 c2 c3;go_enter Tryz.func18,Tryz.ntmps18;go_wp2_with (rw[hW0]);refine HC0.out.mono ?_;rintro e w1 ⟨rfl,hb1⟩;have B1:=zA B0 hb1;go_wp2;go_returns;exact⟨rfl,B1⟩
def zN:Array Value:=#[.slice none 0 0,.slice none 0 0,.slice none 0 0,.int .i64 0]
theorem info_N:(Tryz.prog.info? 26).map (·.size)=some 4:=by kernel_rfl
def OwnP(w:World)(base:Nat)(a:Option Addr)(c:Nat)(ps:List S14.P)(ys:List Lay):Prop:=w.ownsRow base 83 16 (.slice a ps.length c) ps.length (PCs ps ys)
theorem zdD{w w':World}{base:Nat}{e:TypeId}{size n:Nat}{v:Value}{xs:List Value}{b:Nat}(h:w.ownsRow base e size v n xs)(hg:w.grownBy w' (some b))(hb:b<base):w'.ownsRow base e size v n xs:=by
 refine⟨h.1,?_⟩;rcases h.2 with h'|⟨g,cap',cur,h',hb',hg',r⟩
 ·exact .inl h'
 ·exact .inr ⟨g,cap',cur,h',hb',(hg.block g (Array.getElem?_eq_some_iff.1 hg').1 (fun e=>by have:=zL e;omega)).trans hg',r⟩
theorem zbG{w:World}{B B':Nat}{e:TypeId}{size n:Nat}{v:Value}{xs:List Value}(h:w.ownsRow B e size v n xs)(hb:B'≤B):w.ownsRow B' e size v n xs:=by
 refine⟨h.1,?_⟩;rcases h.2 with h'|⟨g,cap',cur,h',hb',r⟩
 ·exact .inl h'
 ·exact .inr ⟨g,cap',cur,h',yF hb hb',r⟩
theorem zaR(w:World)(b i:Nat)(v:Value):w.grownBy (w.setCell ⟨b,i,none⟩ v) (some b):=
 ⟨rfl,rfl,rfl,by simp,fun j _ hne=>heap_setCell_other w ⟨b,i,none⟩ j v (fun e=>hne (by rw[e]))⟩
theorem zjQ(N:S14.N)(L:NLay)(w:World)(hN:NIs N L w)(h1:1≤N.comps.length∧N.comps.length≤16)(h2:N.parts.length=N.comps.length)(h3:N.ctxs.length=16) :
 Calls Tryz.prog 57 #[NV N L] w fun e w'=>∃a1 c1 a2 c2 a3 c3,e = .returned (NV N ⟨a1,c1,a2,c2,a3,c3,L.ys⟩)∧w'.ownsRow w.heap.size 54 6 (.slice a1 N.comps.length c1) N.comps.length (zdB N.comps)∧
  OwnP w' w.heap.size a2 c2 N.parts L.ys∧w'.ownsRow w.heap.size 109 1 (.slice a3 N.ctxs.length c3) N.ctxs.length (zeS N.ctxs)∧Below w.heap.size w w':=by
 obtain⟨g1,o1,ha1,_⟩:=hN.rc (fun e=>by have h:=yQ List.length e;rw[yS,List.length_nil]at h;omega);obtain⟨g2,o2,ha2,_⟩:=hN.rp (fun e=>by have h:=yQ List.length e;rw[zbP _ _ hN.ly,List.length_nil]at h;omega);obtain⟨g3,o3,ha3,_⟩:=hN.rx (fun e=>by have h:=yQ List.length e;rw[zaC,List.length_nil]at h;omega);have r1:=hN.rc;have r2:=hN.rp;have r3:=hN.rx;have hly:=zbP _ _ hN.ly;rw[ha1]at r1;rw[ha2]at r2;rw[ha3]at r3;have H1:=zD fun(W:World) (hW:Below w.heap.size w W)=>zjS (zdB N.comps) N.comps.length (by rw[yS,Nat.mul_comm]) (zkO _) g1 o1 L.c1 W h1.1 (by omega) (r1.step hW);have H2:=zD fun(W:World) (hW:Below w.heap.size w W)=>cloneParts14 (PCs N.parts L.ys) N.parts.length (by rw[hly,Nat.mul_comm]) (PCs_one _ _) g2 o2 L.c2 W (by omega) (by omega) (r2.step hW);have H3:=zD fun(W:World) (hW:Below w.heap.size w W)=>zmB (zeS N.ctxs) N.ctxs.length (by rw[zaC,Nat.mul_one]) (zkN _) g3 o3 L.c3 W (by omega) (by omega) (r3.step hW);unfold NV zaI OwnP;simp only;rw[ha1,ha2,ha3];obtain⟨V1,hV1⟩:∃v,zdB N.comps=v:=⟨_,rfl⟩;obtain⟨V2,hV2⟩:∃v,PCs N.parts L.ys=v:=⟨_,rfl⟩;obtain⟨V3,hV3⟩:∃v,zeS N.ctxs=v:=⟨_,rfl⟩;obtain⟨nc,hnc⟩:∃n,N.comps.length=n:=⟨_,rfl⟩;obtain⟨np,hnp⟩:∃n,N.parts.length=n:=⟨_,rfl⟩;obtain⟨nx,hnx⟩:∃n,N.ctxs.length=n:=⟨_,rfl⟩;obtain⟨pt,hpt⟩:∃n,N.part=n:=⟨_,rfl⟩;rw[hV1,hnc]at H1;rw[hV2,hnp]at H2;rw[hV3,hnx]at H3;rw[hV1,hV2,hV3,hnc,hnp,hnx,hpt];clear hN r1 r2 r3 hV1 hV2 hV3 hnc hnp hnx hpt h1 h2 h3 hly ha1 ha2 ha3;obtain⟨W1,hW1⟩:∃W1,(w.alloc (.cells #[.slice (some ⟨g1,o1,none⟩) nc L.c1,.slice (some ⟨g2,o2,none⟩) np L.c2,.slice (some ⟨g3,o3,none⟩) nx L.c3,.int .i64 pt] 26)).alloc (.cells zN 26)=W1:=⟨_,rfl⟩;have k1:Blk W1 w.heap.size [.slice (some ⟨g1,o1,none⟩) nc L.c1,.slice (some ⟨g2,o2,none⟩) np L.c2,.slice (some ⟨g3,o3,none⟩) nx L.c3,.int .i64 pt] 26:=by rw[←hW1];exact(Blk.new w _ _).alloc _
 have k2:Blk W1 (w.heap.size+1) [.slice none 0 0,.slice none 0 0,.slice none 0 0,.int .i64 0] 26:=by
  rw[←hW1];have h:=Blk.new (w.alloc (.cells #[.slice (some ⟨g1,o1,none⟩) nc L.c1,.slice (some ⟨g2,o2,none⟩) np L.c2,.slice (some ⟨g3,o3,none⟩) nx L.c3,.int .i64 pt] 26)) [.slice none 0 0,.slice none 0 0,.slice none 0 0,.int .i64 0] 26;rwa[zZ]at h
 have B1:Below w.heap.size w W1:=by rw[←hW1];exact((zJ _ _).alloc (zF _) _).alloc (by simp) _
 have hz1:=k2.lt;unfold zN at hW1;have hCS:Cells W1 [(⟨w.heap.size,0,none⟩,.slice (some ⟨g1,o1,none⟩) nc L.c1),(⟨w.heap.size,1,none⟩,.slice (some ⟨g2,o2,none⟩) np L.c2),(⟨w.heap.size,2,none⟩,.slice (some ⟨g3,o3,none⟩) nx L.c3)]:=⟨k1.cell 0,k1.cell 1,k1.cell 2,yJ⟩;go_enter Tryz.func57,Tryz.ntmps57;go_wp2_with (rw[hW1]);refine zbL 10 5 (.read 0 (.read 1 (.read 3 (.read 4 (.read 6 (.read 7 (.one 2 (.read 9 (.one 5 (.one 8 .done)))))))))) _ _ o0P (Keeps W1 [(⟨w.heap.size,0,none⟩,.slice (some ⟨g1,o1,none⟩) nc L.c1),(⟨w.heap.size,1,none⟩,.slice (some ⟨g2,o2,none⟩) np L.c2),(⟨w.heap.size,2,none⟩,.slice (some ⟨g3,o3,none⟩) nx L.c3)]) (by kernel_rfl) (zaS 10 _).symm (by kernel_rfl) (by kernel_rfl) (by kernel_rfl) (by kernel_rfl) (Keeps.start hCS) (fun Y Q4 F4 hY hF=> ?_);simp only[Plan.map,ltc,ltz,ldc,ldz,List.getD_cons_zero,List.getD_cons_succ]
 repeat
  apply yA (by rw[hY];rfl)
  ·intro w2 hS2;(try simp only[Keeps,Cells]at hS2);go_simp;with_reducible rfl
  simp only[zpA]
 apply yK (by rw[hY];rfl)
 ·go_simp;with_reducible exact⟨rfl,rfl⟩
 refine(H1.out _ (zA B1 (Keeps.start hCS).1)).mono ?_;rintro e w2 ⟨a1,c1,rfl,own1,hb2⟩;have hk2:=(Keeps.start hCS).step hb2;refine⟨_,rfl,hk2,?_⟩;simp only[zpA]
 repeat
  apply yA (by rw[hY];rfl)
  ·intro w2 hS2;(try simp only[Keeps,Cells]at hS2);go_simp;with_reducible rfl
  simp only[zpA]
 apply yK (by rw[hY];rfl)
 ·go_simp;with_reducible exact⟨rfl,rfl⟩
 refine(H2.out _ (zA B1 hk2.1)).mono ?_;rintro e w3 ⟨a2,c2,rfl,own2,hb3⟩;have hk3:=hk2.step hb3;refine⟨_,rfl,hk3,?_⟩;simp only[zpA];apply yK (by rw[hY];rfl)
 ·go_simp;with_reducible exact⟨rfl,rfl⟩
 refine(H3.out _ (zA B1 hk3.1)).mono ?_;rintro e w4 ⟨a3,c3,rfl,own3,hb4⟩;have hk4:=hk3.step hb4;refine⟨_,rfl,hk4,?_⟩;simp only[zpA];refine yR (hF.out _ _ (fun K hK=> ?_));clear hF hY;have z4:=hk4.1.size;have z3:=hk3.1.size;have z2:=hk2.1.size;have hd4:w.heap.size+1<W1.heap.size:=hz1;have hdd:W1.drew.heap.size=W1.heap.size:=rfl;have p1:=yO (B:=0) (yO (B:=0) own1 hb3) hb4;have p2:=yO (B:=0) own2 hb4;have p3:=own3;have B4:=zA B1 hk4.1;have kn:=k1.step hk4.1;have kr:=k2.step hk4.1;clear hk2 hk3 hk4 own1 own2 own3 hb2 hb3 hb4 hCS k1 k2;have s1:=((kn.set 0 (.slice a1 nc c1)).set 1 (.slice a2 np c2)).set 2 (.slice a3 nx c3);have f0:=kn.cell 0;have f0f:=kn.free 0;have f1:=(kn.set 0 (.slice a1 nc c1)).cell 1;have f1f:=(kn.set 0 (.slice a1 nc c1)).free 1;have f2:=((kn.set 0 (.slice a1 nc c1)).set 1 (.slice a2 np c2)).cell 2;have f2f:=((kn.set 0 (.slice a1 nc c1)).set 1 (.slice a2 np c2)).free 2;simp only[sC0,sCs,lgz,lgs]at s1 f0 f1 f2;have kr1:=((kr.other w.heap.size 0 (.slice a1 nc c1) (by omega)).other w.heap.size 1 (.slice a2 np c2) (by omega)).other w.heap.size 2 (.slice a3 nx c3) (by omega)
 have B5:Below w.heap.size w (((w4.setCell ⟨w.heap.size,0,none⟩ (.slice a1 nc c1)).setCell ⟨w.heap.size,1,none⟩ (.slice a2 np c2)).setCell ⟨w.heap.size,2,none⟩ (.slice a3 nx c3)):=
  ((B4.setCell (p:=⟨w.heap.size,0,none⟩) (by simp) _).setCell (p:=⟨w.heap.size,1,none⟩) (by simp) _).setCell (p:=⟨w.heap.size,2,none⟩) (by simp) _
 have step3:∀{base:Nat} {e:TypeId} {size n:Nat} {v:Value} {xs:List Value},w4.ownsRow base e size v n xs→w.heap.size<base→(((w4.setCell ⟨w.heap.size,0,none⟩ (.slice a1 nc c1)).setCell ⟨w.heap.size,1,none⟩ (.slice a2 np c2)).setCell ⟨w.heap.size,2,none⟩ (.slice a3 nx c3)).ownsRow base e size v n xs:=fun h hb=>
  zdD (zdD (zdD h (zaR _ _ _ _) hb) (zaR _ _ _ _) hb) (zaR _ _ _ _) hb
 have P1:=zD (step3 p1 (by omega));have P2:=zD (step3 p2 (by omega));have P3:=zD (step3 p3 (by omega));clear p1 p2 p3 step3;go_wp2_with fail;refine OnlyK.mk (hK.out _ _ ?_);clear hK;obtain⟨w5,hw5⟩:∃w5,((w4.setCell ⟨w.heap.size,0,none⟩ (.slice a1 nc c1)).setCell ⟨w.heap.size,1,none⟩ (.slice a2 np c2)).setCell ⟨w.heap.size,2,none⟩ (.slice a3 nx c3)=w5:=⟨_,rfl⟩;rw[hw5]at s1 kr1 B5 P1 P2 P3⊢;clear hw5 f0 f0f f1 f1f f2 f2f kn kr;go_wp2_with (first
  | (refine zT 26 (.tmp 1) (by rfl) (by rfl) w.heap.size (by rfl) [.slice a1 nc c1,.slice a2 np c2,.slice a3 nx c3,.int .i64 pt] 26 s1 _ Tryz.underlying26 rfl info_N ?_)
  | (refine yD 26 (.tmp 2) (.tmp 15) (by rfl) (by rfl) (w.heap.size+1) (by rfl) [.slice a1 nc c1,.slice a2 np c2,.slice a3 nx c3,.int .i64 pt] (by rfl) _ 26 kr1 info_N rfl (by simp[Value.oneCell']) ?_;intro wL EL gL sL))
 have hL:=run_loadVar_mid wL _ 0 _ _ _ EL.cells Tryz.underlying26 rfl info_N;refine bodyPost_ret (v:=.agg #[.slice a1 nc c1,.slice a2 np c2,.slice a3 nx c3,.int .i64 pt]) ?_ rfl ?_
 ·exact zbH (show Tryz.f57.results = #[.cell 2 26]from rfl) (p:=⟨w.heap.size+1,0,none⟩) rfl hL
 ·exact⟨a1,c1,a2,c2,a3,c3,rfl,zbG (zdD P1.out gL (by omega)) (by omega),zbG (zdD P2.out gL (by omega)) (by omega),zbG (zdD P3.out gL (by omega)) (by omega),B5.trans (yC gL (by omega) B5.size)⟩
def zH:Value:=.agg #[.int .i64 0,.int .i64 0,.int .i64 0,.int .i64 0,.int .i64 0,.int .i64 0]
theorem zeW(v:Value)(w:World):(Instr.typeAssert (.iface 115 v) 87 117 true).run Tryz.prog w = .ok (.tuple #[zH,.bool false]) w:=by kernel_rfl
theorem zfX(v:Value)(w:World):(Instr.typeAssert (.iface 116 v) 87 117 true).run Tryz.prog w = .ok (.tuple #[zH,.bool false]) w:=by kernel_rfl
theorem zfI(v:Value)(w:World):(Instr.typeAssert (.iface 118 v) 87 117 true).run Tryz.prog w = .ok (.tuple #[zH,.bool false]) w:=by kernel_rfl
theorem zfJ(v:Value)(w:World):(Instr.typeAssert (.iface 119 v) 87 117 true).run Tryz.prog w = .ok (.tuple #[zH,.bool false]) w:=by kernel_rfl
theorem zhA(v:Value)(w:World):(Instr.typeAssert (.iface 120 v) 87 117 true).run Tryz.prog w = .ok (.tuple #[zH,.bool false]) w:=by kernel_rfl
theorem zfH(v:Value)(w:World):(Instr.typeAssert (.iface 121 v) 87 117 true).run Tryz.prog w = .ok (.tuple #[zH,.bool false]) w:=by kernel_rfl
theorem zmV(N:S14.N)(L:NLay)(w:World)(hN:NIs N L w)(hl:N.comps.length≤16)(hk6:∀c∈N.comps,0≤c.kind∧c.kind≤6∧c.kind≠2) :
 Calls Tryz.prog 44 #[NV N L] w fun e w'=>e = .returned (NV N L)∧Below w.heap.size w w':=by
 have HN:=zD hN;have HO:=zD fun(x:S14.C) W=>(show Calls Tryz.prog 43 #[.agg #[.int .i64 x.kind,.int .i64 x.bits,.int .i64 x.limit,.int .i64 x.rate,.int .i64 x.first,.int .i64 x.second]] W _ from zeJ x W);have Hk6:=zD hk6;unfold NV zaI;obtain⟨nc,hnc⟩:∃n,N.comps.length=n:=⟨_,rfl⟩;obtain⟨np,hnp⟩:∃n,N.parts.length=n:=⟨_,rfl⟩;obtain⟨nx,hnx⟩:∃n,N.ctxs.length=n:=⟨_,rfl⟩;obtain⟨pt,hpt⟩:∃n,N.part=n:=⟨_,rfl⟩;rw[hnc]at hl;rw[hnc,hnp,hnx,hpt];have Hnc:=zD hnc;clear hnc hnp hnx hpt hN hk6;obtain⟨W1,hW1⟩:∃W1,(w.alloc (.cells #[.slice L.a1 nc L.c1,.slice L.a2 np L.c2,.slice L.a3 nx L.c3,.int .i64 pt] 26)).alloc (.cells zN 26)=W1:=⟨_,rfl⟩;have k1:Blk W1 w.heap.size [.slice L.a1 nc L.c1,.slice L.a2 np L.c2,.slice L.a3 nx L.c3,.int .i64 pt] 26:=by rw[←hW1];exact(Blk.new w _ _).alloc _
 have k2:Blk W1 (w.heap.size+1) [.slice none 0 0,.slice none 0 0,.slice none 0 0,.int .i64 0] 26:=by
  rw[←hW1];have h:=Blk.new (w.alloc (.cells #[.slice L.a1 nc L.c1,.slice L.a2 np L.c2,.slice L.a3 nx L.c3,.int .i64 pt] 26)) [.slice none 0 0,.slice none 0 0,.slice none 0 0,.int .i64 0] 26;rwa[zZ]at h
 have B1:Below w.heap.size w W1:=by rw[←hW1];exact((zJ _ _).alloc (zF _) _).alloc (by simp) _
 unfold zN at hW1;have c0:=k1.cell 0;simp only[lgz]at c0;go_enter Tryz.func44,Tryz.ntmps44;go_wp2_with (rw[hW1]);clear c0
 go_loopw [9] (fun i wr=>∃(k:Nat),k≤nc∧i = .int .i64 (k:Int)∧Blk wr w.heap.size [.slice L.a1 nc L.c1,.slice L.a2 np L.c2,.slice L.a3 nx L.c3,.int .i64 pt] 26∧
  Blk wr (w.heap.size+1) [.slice none 0 0,.slice none 0 0,.slice none 0 0,.int .i64 0] 26∧Below w.heap.size w wr) (fun i _=>nc-(intOf i).toNat)
 case atStart=>exact⟨0,by omega,rfl,k1,k2,B1⟩
 case round=>
  clear k1 k2 B1 hW1;obtain⟨k,hk,rfl,k1,k2,hB⟩:=hrel;by_cases hlt:k<nc
  ·have hkz:(k:Int)<(nc:Int):=by omega
   obtain⟨x,hx⟩:∃x,N.comps[k]? = some x:=⟨_,zG (by have:=Hnc.out;omega)⟩;obtain⟨g,o,hga,x0,x1,x2,x3,x4,x5⟩:=(HN.out.step hB).comp_at hx;have hkd:=Hk6.out x (yL hx);rw[hga]at k1⊢;have hb5:Below wr.heap.size wr (wr.alloc (.cells #[.int .i64 x.kind,.int .i64 x.bits,.int .i64 x.limit,.int .i64 x.rate,.int .i64 x.first,.int .i64 x.second] 54)):=(zJ _ _).alloc (zF _) _;go_wp2_with fail;refine(HO.out x _).mono ?_;rintro e w2 ⟨rfl,hb2⟩;have hb25:=zA hb5 hb2;have B2:=zA hB hb25;have k12:=k1.step hb25;have k22:=k2.step hb25;clear x0 x1 x2 x3 x4 x5 hx k1 k2 hb5 hb2;by_cases k0:x.kind=0
   ·have hof:OfV x = .iface 115 (.agg #[.int .i64 x.kind,.int .i64 x.bits,.int .i64 x.limit,.int .i64 x.rate,.int .i64 x.first,.int .i64 x.second]):=by
     unfold OfV CV yB;simp only[k0];rfl
    rw[hof];have hta:=zeW (.agg #[.int .i64 x.kind,.int .i64 x.bits,.int .i64 x.limit,.int .i64 x.rate,.int .i64 x.first,.int .i64 x.second]);clear k0 hof hkd;go_wp2;go_roundw
    case rel=>exact⟨k+1,by omega,by simp,k12,k22,B2⟩
    case measure=>simp[intOf];omega
   by_cases k1:x.kind=1
   ·have hof:OfV x = .iface 116 (.agg #[.int .i64 x.kind,.int .i64 x.bits,.int .i64 x.limit,.int .i64 x.rate,.int .i64 x.first,.int .i64 x.second]):=by
     unfold OfV CV yB;simp only[k1];rfl
    rw[hof];have hta:=zfX (.agg #[.int .i64 x.kind,.int .i64 x.bits,.int .i64 x.limit,.int .i64 x.rate,.int .i64 x.first,.int .i64 x.second]);clear k1 hof hkd;go_wp2;go_roundw
    case rel=>exact⟨k+1,by omega,by simp,k12,k22,B2⟩
    case measure=>simp[intOf];omega
   by_cases k3:x.kind=3
   ·have hof:OfV x = .iface 118 (.agg #[.int .i64 x.kind,.int .i64 x.bits,.int .i64 x.limit,.int .i64 x.rate,.int .i64 x.first,.int .i64 x.second]):=by
     unfold OfV CV yB;simp only[k3];rfl
    rw[hof];have hta:=zfI (.agg #[.int .i64 x.kind,.int .i64 x.bits,.int .i64 x.limit,.int .i64 x.rate,.int .i64 x.first,.int .i64 x.second]);clear k3 hof hkd;go_wp2;go_roundw
    case rel=>exact⟨k+1,by omega,by simp,k12,k22,B2⟩
    case measure=>simp[intOf];omega
   by_cases k4:x.kind=4
   ·have hof:OfV x = .iface 119 (.agg #[.int .i64 x.kind,.int .i64 x.bits,.int .i64 x.limit,.int .i64 x.rate,.int .i64 x.first,.int .i64 x.second]):=by
     unfold OfV CV yB;simp only[k4];rfl
    rw[hof];have hta:=zfJ (.agg #[.int .i64 x.kind,.int .i64 x.bits,.int .i64 x.limit,.int .i64 x.rate,.int .i64 x.first,.int .i64 x.second]);clear k4 hof hkd;go_wp2;go_roundw
    case rel=>exact⟨k+1,by omega,by simp,k12,k22,B2⟩
    case measure=>simp[intOf];omega
   by_cases k5:x.kind=5
   ·have hof:OfV x = .iface 120 (.agg #[.int .i64 x.kind,.int .i64 x.bits,.int .i64 x.limit,.int .i64 x.rate,.int .i64 x.first,.int .i64 x.second]):=by
     unfold OfV CV yB;simp only[k5];rfl
    rw[hof];have hta:=zhA (.agg #[.int .i64 x.kind,.int .i64 x.bits,.int .i64 x.limit,.int .i64 x.rate,.int .i64 x.first,.int .i64 x.second]);clear k5 hof hkd;go_wp2;go_roundw
    case rel=>exact⟨k+1,by omega,by simp,k12,k22,B2⟩
    case measure=>simp[intOf];omega
   by_cases k6:x.kind=6
   ·have hof:OfV x = .iface 121 (.agg #[.int .i64 x.kind,.int .i64 x.bits,.int .i64 x.limit,.int .i64 x.rate,.int .i64 x.first,.int .i64 x.second]):=by
     unfold OfV CV yB;simp only[k6];rfl
    rw[hof];have hta:=zfH (.agg #[.int .i64 x.kind,.int .i64 x.bits,.int .i64 x.limit,.int .i64 x.rate,.int .i64 x.first,.int .i64 x.second]);clear k6 hof hkd;go_wp2;go_roundw
    case rel=>exact⟨k+1,by omega,by simp,k12,k22,B2⟩
    case measure=>simp[intOf];omega
   omega
  ·obtain rfl:k=nc:=by omega
   go_wp2_with (first
    | (refine zT 26 (.tmp 1) (by rfl) (by rfl) w.heap.size (by rfl) [.slice L.a1 k L.c1,.slice L.a2 np L.c2,.slice L.a3 nx L.c3,.int .i64 pt] 26 k1 _ Tryz.underlying26 rfl info_N ?_)
    | (refine yD 26 (.tmp 2) (.tmp 43) (by rfl) (by rfl) (w.heap.size+1) (by rfl) [.slice L.a1 k L.c1,.slice L.a2 np L.c2,.slice L.a3 nx L.c3,.int .i64 pt] (by rfl) _ 26 k2 info_N rfl (by simp[Value.oneCell']) ?_;intro wL EL gL sL))
   have hL:=run_loadVar_mid wL _ 0 _ _ _ EL.cells Tryz.underlying26 rfl info_N;refine bodyPost_ret (v:=.agg #[.slice L.a1 k L.c1,.slice L.a2 np L.c2,.slice L.a3 nx L.c3,.int .i64 pt]) ?_ rfl ?_
   ·exact zbH (show Tryz.f44.results = #[.cell 2 26]from rfl) (p:=⟨w.heap.size+1,0,none⟩) rfl hL
   ·exact⟨rfl,hB.trans (yC gL (by omega) hB.size)⟩
theorem S14.checkNet_zero{N:S14.N}(h:S14.checkNet N=0):S14.check N.comps=0∧N.parts.length=N.comps.length∧N.ctxs.length=16∧1≤N.part∧N.part≤255∧S14.allRight N:=by
 unfold S14.checkNet at h;split at h
 ·rename_i hc;exact absurd h hc
 ·rename_i hc
  split at h
  ·cases h
  ·rename_i hl
   split at h
   ·cases h
   ·rename_i hp
    split at h
    ·rename_i hr
     have:=S14.has_iff.1 (by simpa using hp);exact⟨by simpa using hc,by omega,by omega,this.1,this.2,hr⟩
    ·cases h
theorem S14.kinds_of{l:List S14.C}(h:S14.check l=0):∀c∈l,0≤c.kind∧c.kind≤6:=fun c hc=>by
 obtain⟨k,hk⟩:=List.getElem?_of_mem hc;have:=(S14.ok_is ((S14.check_zero h).2.2 k c hk)).kind;omega
theorem zdE(N:S14.N)(L:NLay)(O:Nat→List Int→Int)(w:World)(hN:NIs N L w)(HR:zcQ N L w)(h0:S14.checkNet N=0)(HK:zfQ N L w O) :
 Calls Tryz.prog 20 #[NV N L] w fun e w'=>∃a cap,e = .returned (.tuple #[.slice a N.comps.length cap,.int .i64 0])∧Rd w' a (zbU (S14.outs O N.comps.length))∧(∀g o,a=some ⟨g,o,none⟩→w.heap.size≤g)∧N.comps.length≤cap∧Below w.heap.size w w':=by
 obtain⟨hck,hpl,hxl,_,_,_⟩:=S14.checkNet_zero h0;have hl:=(S14.check_zero hck).2.1;have hl1:N.comps.length≤4611686018427387904:=by omega
 obtain⟨W1,hW1⟩:∃W1,w.alloc (.cells (zaI N L).toArray 26)=W1:=⟨_,rfl⟩;have k1:Blk W1 w.heap.size (zaI N L) 26:=by rw[←hW1];exact Blk.new w _ _
 have B1:Below w.heap.size w W1:=by rw[←hW1];exact(zJ _ _).alloc (zF _) _
 have HC:=zD (zdW N L W1 (hN.step B1) hl1 (fun k c p y h1 h2 h3 h4 W hW=>HR k c p y h1 h2 h3 h4 W (zA B1 hW)));rw[h0]at HC;have HO:=zD fun(W:World) (hW:Below w.heap.size w W)=>zoI N L O W (hN.step hW) hl (S14.kinds_of hck) (fun k c h bef a W' h1=>HK k c h bef a W' (zA hW h1));clear HR h0 hpl hxl hck hl1 HK;unfold NV zaI at HC HO⊢;unfold zaI at k1 hW1;obtain⟨nc,hnc⟩:∃n,N.comps.length=n:=⟨_,rfl⟩;obtain⟨np,hnp⟩:∃n,N.parts.length=n:=⟨_,rfl⟩;obtain⟨nx,hnx⟩:∃n,N.ctxs.length=n:=⟨_,rfl⟩;obtain⟨pt,hpt⟩:∃n,N.part=n:=⟨_,rfl⟩;rw[hnc,hnp,hnx,hpt]at HC HO k1 hW1;rw[hnc,hnp,hnx,hpt];clear hnp hnx hpt hN hl hnc;go_enter Tryz.func20,Tryz.ntmps20;go_wp2_with (first
  | (rw[hW1])
  | (refine zT 26 (.tmp 1) (by rfl) (by rfl) w.heap.size (by rfl) [.slice L.a1 nc L.c1,.slice L.a2 np L.c2,.slice L.a3 nx L.c3,.int .i64 pt] 26 k1 _ Tryz.underlying26 rfl info_N ?_))
 refine HC.out.mono ?_;rintro e w2 ⟨rfl,hb2⟩;have k2:=k1.step hb2;have B2:=zA B1 hb2;clear k1;go_wp2_with (first
  | (refine zT 26 (.tmp 1) (by rfl) (by rfl) w.heap.size (by rfl) [.slice L.a1 nc L.c1,.slice L.a2 np L.c2,.slice L.a3 nx L.c3,.int .i64 pt] 26 k2 _ Tryz.underlying26 rfl info_N ?_))
 refine(HO.out _ B2).mono ?_;rintro e w3 ⟨a,cap,rfl,hrd,hfar,hcap,hb3⟩;have B3:=zA B2 hb3;have hz:=B2.size;have Hrd:=zD hrd;have Hfar:=zD hfar;clear hrd hfar;go_wp2_with fail;go_returns;exact⟨a,cap,rfl,Hrd.out,fun g o e=>yF hz (Hfar.out g o e),hcap,B3⟩
theorem zcR(N:S14.N)(L:NLay)(O:Nat→List Int→Int)(w:World)(hN:NIs N L w)(HR:zcQ N L w)(h0:S14.checkNet N=0)(HK:zfQ N L w O) :
 Calls Tryz.prog 22 #[NV N L] w fun e w'=>e = .returned (.tuple #[.int .i64 (S06.squash ((S14.outs O N.comps.length).getD (N.comps.length-1) 0)),.int .i64 0])∧Below w.heap.size w w':=by
 obtain⟨hck,_⟩:=S14.checkNet_zero h0;obtain⟨hl0,hl,_⟩:=S14.check_zero hck;obtain⟨W1,hW1⟩:∃W1,w.alloc (.cells (zaI N L).toArray 26)=W1:=⟨_,rfl⟩;have k1:Blk W1 w.heap.size (zaI N L) 26:=by rw[←hW1];exact Blk.new w _ _
 have B1:Below w.heap.size w W1:=by rw[←hW1];exact(zJ _ _).alloc (zF _) _
 have HC:=zD (zdE N L O W1 (hN.step B1) (fun k c p y h1 h2 h3 h4 W hW=>HR k c p y h1 h2 h3 h4 W (zA B1 hW)) h0 (fun k c h bef a W' h1=>HK k c h bef a W' (zA B1 h1)));have HS:=zD fun x W=>zjG x W;clear HR h0 hck HK;unfold NV zaI at HC⊢;unfold zaI at k1 hW1;have hlen:=S14.outs_length O N.comps.length;obtain⟨X,hX⟩:∃X,S14.outs O N.comps.length=X:=⟨_,rfl⟩;obtain⟨nc,hnc⟩:∃n,N.comps.length=n:=⟨_,rfl⟩;obtain⟨np,hnp⟩:∃n,N.parts.length=n:=⟨_,rfl⟩;obtain⟨nx,hnx⟩:∃n,N.ctxs.length=n:=⟨_,rfl⟩;obtain⟨pt,hpt⟩:∃n,N.part=n:=⟨_,rfl⟩;rw[hX]at hlen HC⊢;rw[hnc]at hlen hl0 hl;rw[hnc,hnp,hnx,hpt]at HC k1 hW1;rw[hnc,hnp,hnx,hpt];clear hnp hnx hpt hN hnc hX;go_enter Tryz.func22,Tryz.ntmps22;go_wp2_with (first
  | (rw[hW1])
  | (refine zT 26 (.tmp 1) (by rfl) (by rfl) w.heap.size (by rfl) [.slice L.a1 nc L.c1,.slice L.a2 np L.c2,.slice L.a3 nx L.c3,.int .i64 pt] 26 k1 _ Tryz.underlying26 rfl info_N ?_))
 refine HC.out.mono ?_;rintro e w2 ⟨a,cap,rfl,hrd,_,hcap,hb2⟩;obtain⟨g,o,rfl,hcs⟩:=hrd.at (i:=nc-1) (by unfold zbU;rw[zbF];omega);have hc0:w2.cell? ⟨g,o+(nc-1),none⟩=some (.int .i64 (X.getD (nc-1) 0)):=by
  rw[hcs (nc-1) (by unfold zbU;rw[zbF];omega),zU,zG (by omega)];simp[zbU]
 have hncz:(1:Int)≤(nc:Int):=by omega
 have e1:((nc-1:Nat):Int)=(nc:Int)-1:=by omega
 have hc1:w2.cell? ⟨g,o+((nc:Int)-1).toNat*1,none⟩=some (.int .i64 (X.getD (nc-1) 0)):=by
  rw[show((nc:Int)-1).toNat*1=nc-1 by omega];exact hc0
 have B2:=zA B1 hb2;clear hrd hcs k1 e1;go_wp2_with fail;refine(HS.out _ _).mono ?_;rintro e w3 ⟨rfl,hb3⟩;go_wp2_with fail;go_returns;exact⟨rfl,zA B2 hb3⟩
structure Kept(lo hi:Nat)(w w':World):Prop where
 os:w'.os=w.os
 tape:w'.tape=w.tape
 output:w'.output=w.output
 size:w.heap.size≤w'.heap.size
 same:∀k,k<lo∨hi≤k→k<w.heap.size→w'.heap[k]? = w.heap[k]?
theorem Kept.trans{lo hi:Nat}{a b c:World}(h:Kept lo hi a b)(k:Kept lo hi b c):Kept lo hi a c:=
 ⟨k.os.trans h.os,k.tape.trans h.tape,k.output.trans h.output,yF h.size k.size,fun i hi hl=>(k.same i hi (zaX hl h.size)).trans (h.same i hi hl)⟩
theorem Kept.below{lo hi:Nat}{a b:World}(h:Below a.heap.size a b):Kept lo hi a b:=⟨h.os,h.tape,h.output,h.size,fun k _ hk=>h.block k hk⟩
theorem Rd.kept{lo hi:Nat}{w w':World}{a:Option Addr}{vals:List Value}(h:Rd w a vals)(hk:Kept lo hi w w')(hf:∀g o,a=some ⟨g,o,none⟩→g<lo∨hi≤g):Rd w' a vals:=fun hn=>by
 obtain⟨g,o,rfl,hcs⟩:=h hn;refine⟨g,o,rfl,fun j v hv=> ?_⟩;have hc:=hcs j v hv;have hb:=hk.same g (hf g o rfl) (zI hc);unfold World.cell? at hc⊢;rw[hb];exact hc
def PRob(lo hi:Nat)(p:S14.P)(y:Lay)(w:World):Prop:=∀w',Kept lo hi w w'→PIs p y w'
theorem PRob.kept{lo hi:Nat}{p:S14.P}{y:Lay}{w w':World}(h:PRob lo hi p y w)(hk:Kept lo hi w w'):PRob lo hi p y w':=fun w2 h2=>h w2 (hk.trans h2)
theorem PRob.zero(lo hi:Nat)(w:World):PRob lo hi S14.P0 zeZ w:=fun w' _=>PIs.zero w'
structure KepX(X:Nat→Prop)(w w':World):Prop where
 os:w'.os=w.os
 tape:w'.tape=w.tape
 output:w'.output=w.output
 size:w.heap.size≤w'.heap.size
 same:∀k,¬X k→k<w.heap.size→w'.heap[k]? = w.heap[k]?
theorem KepX.refl(X:Nat→Prop)(w:World):KepX X w w:=⟨rfl,rfl,rfl,zF _,fun _ _ _=>rfl⟩
theorem KepX.trans{X:Nat→Prop}{a b c:World}(h:KepX X a b)(k:KepX X b c):KepX X a c:=
 ⟨k.os.trans h.os,k.tape.trans h.tape,k.output.trans h.output,yF h.size k.size,fun i hi hl=>(k.same i hi (zaX hl h.size)).trans (h.same i hi hl)⟩
theorem KepX.below{X:Nat→Prop}{a b:World}(h:Below a.heap.size a b):KepX X a b:=⟨h.os,h.tape,h.output,h.size,fun k _ hk=>h.block k hk⟩
theorem KepX.row{X:Nat→Prop}{w w':World}{row:Option Nat}(h:w.grownBy w' row)(h1:∀b,row=some b→X b∨w.heap.size≤b):KepX X w w':=
 ⟨h.os,h.tape,h.output,h.size,fun k hk hl=>h.block k hl (fun e=>(h1 k e.symm).elim hk (fun h=>by omega))⟩
theorem KepX.rowB{X:Nat→Prop}{w0 w w':World}{row:Option Nat}(hk:KepX X w0 w)(h:w.grownBy w' row)(h1:∀b,row=some b→X b∨w0.heap.size≤b):KepX X w0 w':=
 ⟨h.os.trans hk.os,h.tape.trans hk.tape,h.output.trans hk.output,yF hk.size h.size,fun k hk2 hl=>(h.block k (zaX hl hk.size) (fun e=>(h1 k e.symm).elim hk2 (fun h=>by omega))).trans (hk.same k hk2 hl)⟩
theorem KepX.toBelow{X:Nat→Prop}{w0 w w':World}(h:KepX X w w')(hb:Below w0.heap.size w0 w)(hl:∀k,X k→w0.heap.size≤k):Below w0.heap.size w0 w':=
 ⟨h.os.trans hb.os,h.tape.trans hb.tape,h.output.trans hb.output,yF hb.size h.size,fun k hk=>(h.same k (fun hx=>by have:=hl k hx;omega) (zaX hk hb.size)).trans (hb.block k hk)⟩
theorem KepX.mono{X X':Nat→Prop}{w w':World}(h:KepX X w w')(h1:∀k,k<w.heap.size→X k→X' k):KepX X' w w':=
 ⟨h.os,h.tape,h.output,h.size,fun k hk hl=>h.same k (fun hx=>hk (h1 k hl hx)) hl⟩
theorem KepX.toKept{X:Nat→Prop}{lo hi:Nat}{w w':World}(h:KepX X w w')(h1:∀k,k<w.heap.size→X k→lo≤k∧k<hi):Kept lo hi w w':=
 ⟨h.os,h.tape,h.output,h.size,fun k hk hl=>h.same k (fun hx=>by have:=h1 k hl hx;omega) hl⟩
theorem Rd.kepX{X:Nat→Prop}{w w':World}{a:Option Addr}{vals:List Value}(h:Rd w a vals)(hk:KepX X w w')(hf:∀g o,a=some ⟨g,o,none⟩→¬X g):Rd w' a vals:=fun hn=>by
 obtain⟨g,o,rfl,hcs⟩:=h hn;refine⟨g,o,rfl,fun j v hv=> ?_⟩;have hc:=hcs j v hv;have hb:=hk.same g (hf g o rfl) (zI hc);unfold World.cell? at hc⊢;rw[hb];exact hc
theorem Blk.kepX{X:Nat→Prop}{w w':World}{b:Nat}{cs:List Value}{t:TypeId}(h:Blk w b cs t)(hk:KepX X w w')(hb:¬X b):Blk w' b cs t:=by
 have hl:=h.lt;unfold Blk at *;rw[hk.same b hb hl];exact h
def PRobX(X:Nat→Prop)(p:S14.P)(y:Lay)(w:World):Prop:=∀w',KepX X w w'→PIs p y w'
theorem PRobX.is{X:Nat→Prop}{p:S14.P}{y:Lay}{w:World}(h:PRobX X p y w):PIs p y w:=h w (KepX.refl _ _)
theorem PRobX.kep{X:Nat→Prop}{p:S14.P}{y:Lay}{w w':World}(h:PRobX X p y w)(hk:KepX X w w'):PRobX X p y w':=fun w2 h2=>h w2 (hk.trans h2)
theorem PRobX.change{X X':Nat→Prop}{p:S14.P}{y:Lay}{w:World}(h:PRobX X p y w)(h1:∀k,k<w.heap.size→X' k→X k):PRobX X' p y w:=fun w2 h3=>h w2 (h3.mono h1)
theorem PRobX.append{X X':Nat→Prop}{p:S14.P}{y:Lay}{w w':World}{row:Option Nat}(h:PRobX X p y w)(hg:w.grownBy w' row)(h1:∀b,row=some b→X b)(h2:∀k,k<w.heap.size→X' k→X k):PRobX X' p y w':=fun w2 h3=>
 h w2 ⟨h3.os.trans hg.os,h3.tape.trans hg.tape,h3.output.trans hg.output,yF hg.size h3.size,fun k hk hl=>(h3.same k (fun hx=>hk (h2 k hl hx)) (zaX hl hg.size)).trans (hg.block k hl (fun e=>hk (h1 k e.symm)))⟩
theorem PRob.toX{lo hi:Nat}{X:Nat→Prop}{p:S14.P}{y:Lay}{w:World}(h:PRob lo hi p y w)(h1:∀k,k<w.heap.size→X k→lo≤k∧k<hi):PRobX X p y w:=fun w2 h2=>h w2 (h2.toKept h1)
theorem zmW{P:Program}{w:World}{o:Oper}{a:Act}(s x:Operand)(t e:TypeId)(size bytes:Nat)(zc:List Value)(base:Nat)
 (he:Elems P t e size bytes zc) (ho:o.op = .call {callee:=.builtin .append,args:=#[s,x],argTypes:=#[t,t]})
 (v:Value) (n:Nat) (xs:List Value) (hs:a.eval s=v) (hown:w.ownsRow base e size v n xs)
 (ad:Addr) (m c:Nat) (news:List Value) (hx:a.eval x = .slice (some ad) m c) (hl:news.length=m*size) (hpos:news≠ []) (hnews:Rd w (some ad) news) (h1:∀u∈news,u.oneCell'=true)
 (h63:n+m≤maxLen) (hbytes:(n+m)*bytes≤140737488355328) (hbase:base≤w.heap.size) :
 ∃a' cap' w',(execOp a.eval o).run P w = .ok (.value (.slice a' (n+m) cap')) w'∧w'.ownsRow base e size (.slice a' (n+m) cap') (n+m) (xs++news)∧w.grownBy w' v.ownBlock∧
  ((Value.slice a' (n+m) cap').ownBlock=v.ownBlock∨(Value.slice a' (n+m) cap').ownBlock=some w.heap.size):=by
 obtain⟨i,z,hi,hz,hsz,hby,hzs,hzc⟩:=he.open;have hnews':∀j u,news[j]? = some u→w.cell? (ad.add j)=some u:=by
  intro j u hu;obtain⟨b,off,e1,hr⟩:=hnews hpos;cases e1;rw[Addr.add_mid];exact hr j u hu
 obtain⟨v',w',hr,h2,h3,h4,h5⟩:=run_append_own_at (P:=P) w base t o.type e i z size bytes he.1 hi hz hsz hby hzs he.2.2.2 v n xs hown ad m c news hl hnews' h1 h63 hbytes hbase;obtain⟨a',cap',rfl,_⟩:=zbA h2;refine⟨a',cap',w',?_,h2,h3,h5⟩;unfold execOp;simp only[ho,resolve,invoke,builtin,Sem.run_bind,Sem.run_pure,Result.andThen_ok,List.map_toArray,lmc,lmn,hs,hx,hr]
theorem zbV{P:Program}{Y:Array Value→Nat→Option Bool}{Q:Exit→Act→World→Prop}{S:World→Prop}{o:Oper}{rest:List (Bool×Oper)}{a:Act}{G:Act→World→Prop}{w:World}
 (s x:Operand) (t e:TypeId) (size bytes:Nat) (zc:List Value) (base:Nat) (he:Elems P t e size bytes zc)
 (v:Value) (n:Nat) (xs:List Value) (ad:Addr) (m cap:Nat) (news:List Value) (hw:Region.wanted o (Y a.tmps)=true)
 (ho:o.op = .call {callee:=.builtin .append,args:=#[s,x],argTypes:=#[t,t]}) (hs:a.eval s=v) (hx:a.eval x = .slice (some ad) m cap)
 (hl:news.length=m*size) (hpos:news≠ []) (h1:∀u∈news,u.oneCell'=true) (h63:n+m≤maxLen) (hbytes:(n+m)*bytes≤140737488355328)
 (hown:w.ownsRow base e size v n xs) (hnews:Rd w (some ad) news) (hbase:base≤w.heap.size)
 (h:∀a' cap' w',w'.ownsRow base e size (.slice a' (n+m) cap') (n+m) (xs++news)→w.grownBy w' v.ownBlock→((Value.slice a' (n+m) cap').ownBlock=v.ownBlock∨(Value.slice a' (n+m) cap').ownBlock=some w.heap.size)→
   S w'∧zcB P Y Q S G rest (a.put o.dst (.slice a' (n+m) cap')) w'):zcB P Y Q S G ((false,o)::rest) a w:=by
 obtain⟨a',cap',w',r1,r2,r3,r4⟩:=zmW (P:=P) (w:=w) s x t e size bytes zc base he ho v n xs hs hown ad m cap news hx hl hpos hnews h1 h63 hbytes hbase;obtain⟨h4,h5⟩:=h a' cap' w' r2 r3 r4;exact zbS hw r1 h4 h5
theorem zbI{w:World}{base:Nat}{e t:TypeId}{size n b:Nat}{v:Value}{xs cs:List Value}(h:w.ownsRow base e size v n xs)(hb:Blk w b cs t)(hne:¬e=t):v.ownBlock≠some b:=by
 intro hg;obtain⟨_,cur,hc⟩:=zcN h hg;unfold Blk at hb;rw[hb]at hc;simp only[Option.some.injEq]at hc;cases hc;exact hne rfl
def FreshF(c:S14.C):FuncId:=
 if c.kind=0 then 171 else if c.kind=1 then 184 else if c.kind=2 then 213 else if c.kind=3 then 229 else if c.kind=4 then 256 else if c.kind=5 then 263 else 284
def zoB(l:List S14.C)(F:S14.C→S14.P):Prop:=
 ∀(k:Nat) (c:S14.C),l[k]? = some c→S14.ok c (k:Int)=true→∀W,Calls Tryz.prog (FreshF c) #[CV c] W fun e w'=>∃y,e = .returned (PV (F c) y)∧PRob 0 W.heap.size (F c) y w'∧Below W.heap.size W w'
def XNew(R NB:Nat)(v:Value)(k:Nat):Prop:=k≤R∨k=NB∨v.ownBlock=some k
def zeD(w:World)(N N':S14.N):Prop:=∀(L:NLay) (W:World) (X:Nat→Prop),Below w.heap.size w W→(∀k,X k→k<W.heap.size)→(∀W2,KepX X W W2→NIs N L W2)→OwnP W w.heap.size L.a2 L.c2 N.parts L.ys→
 (∀(j:Nat) (p:S14.P) (y:Lay),N.parts[j]? = some p→L.ys[j]? = some y→PRobX (fun k=>X k∨(Value.slice L.a2 N.parts.length L.c2).ownBlock=some k) p y W)→
 (∀g,(Value.slice L.a2 N.parts.length L.c2).ownBlock=some g→¬X g)→
 (∀W2,KepX (fun k=>X k∨(Value.slice L.a2 N.parts.length L.c2).ownBlock=some k) W W2→Rd W2 L.a1 (zdB N.comps)∧Rd W2 L.a3 (zeS N.ctxs))→
 Calls Tryz.prog 44 #[NV N L] W fun e w'=>∃L',e = .returned (NV N' L')∧(∀W2,KepX X w' W2→NIs N' L' W2)∧KepX (fun k=>(Value.slice L.a2 N.parts.length L.c2).ownBlock=some k) W w'
theorem zgM(v:Value)(w:World):(nilAhead 410 115 v "compactor/network.fresh").run Tryz.prog w = .ok (some false) w:=by kernel_rfl
theorem zhE(v:Value)(w:World):(method 410 115 v "compactor/network.fresh").run Tryz.prog w = .ok (171,v) w:=by kernel_rfl
theorem zjA(v:Value)(w:World):(nilAhead 410 116 v "compactor/network.fresh").run Tryz.prog w = .ok (some false) w:=by kernel_rfl
theorem zkA(v:Value)(w:World):(method 410 116 v "compactor/network.fresh").run Tryz.prog w = .ok (184,v) w:=by kernel_rfl
theorem zhX(v:Value)(w:World):(nilAhead 410 117 v "compactor/network.fresh").run Tryz.prog w = .ok (some false) w:=by kernel_rfl
theorem ziS(v:Value)(w:World):(method 410 117 v "compactor/network.fresh").run Tryz.prog w = .ok (213,v) w:=by kernel_rfl
theorem zhW(v:Value)(w:World):(nilAhead 410 118 v "compactor/network.fresh").run Tryz.prog w = .ok (some false) w:=by kernel_rfl
theorem ziR(v:Value)(w:World):(method 410 118 v "compactor/network.fresh").run Tryz.prog w = .ok (229,v) w:=by kernel_rfl
theorem zhY(v:Value)(w:World):(nilAhead 410 119 v "compactor/network.fresh").run Tryz.prog w = .ok (some false) w:=by kernel_rfl
theorem ziT(v:Value)(w:World):(method 410 119 v "compactor/network.fresh").run Tryz.prog w = .ok (256,v) w:=by kernel_rfl
theorem zkK(v:Value)(w:World):(nilAhead 410 120 v "compactor/network.fresh").run Tryz.prog w = .ok (some false) w:=by kernel_rfl
theorem zlO(v:Value)(w:World):(method 410 120 v "compactor/network.fresh").run Tryz.prog w = .ok (263,v) w:=by kernel_rfl
theorem zhV(v:Value)(w:World):(nilAhead 410 121 v "compactor/network.fresh").run Tryz.prog w = .ok (some false) w:=by kernel_rfl
theorem ziQ(v:Value)(w:World):(method 410 121 v "compactor/network.fresh").run Tryz.prog w = .ok (284,v) w:=by kernel_rfl
theorem zkV{α:Type}{l:List α}{k:Nat}{x:α}(h:l[k]? = some x):l.take (k+1)=l.take k ++ [x]:=by
 rw[List.take_add_one,h];rfl
theorem PVals_16(p:S14.P)(y:Lay):∃v0 v1 v2 v3 v4 v5 v6 v7 v8 v9 v10 v11 v12 v13 v14 v15,yG p y = [v0,v1,v2,v3,v4,v5,v6,v7,v8,v9,v10,v11,v12,v13,v14,v15]:=⟨_,_,_,_,_,_,_,_,_,_,_,_,_,_,_,_,rfl⟩
theorem PCs_snoc(ps:List S14.P):∀(ys:List Lay) (p:S14.P) (y:Lay),ys.length=ps.length→PCs (ps ++ [p]) (ys ++ [y])=PCs ps ys++yG p y:=by
 induction ps with
 | nil=>
   intro ys p y h;cases ys with
   | nil=>
     obtain⟨V,hV⟩:∃V,yG p y=V:=⟨_,rfl⟩;have e:PCs ([] ++ [p]) ([] ++ [y])=yG p y ++ []:=rfl;have e2:PCs ([]:List S14.P) [] = []:=rfl;rw[e,e2,hV,List.append_nil,List.nil_append]
   | cons z ys=>simp at h
 | cons q ps ih=>
   intro ys p y h;cases ys with
   | nil=>simp at h
   | cons z ys=>
     have e:PCs (q::ps ++ [p]) (z::ys ++ [y])=yG q z++PCs (ps ++ [p]) (ys ++ [y]):=rfl;have e2:PCs (q::ps) (z::ys)=yG q z++PCs ps ys:=rfl;rw[e,e2,ih ys p y (by simpa using h),List.append_assoc]
theorem mk16(w:World):(Instr.makeSlice 24 (.int .i64 16) (.int .i64 16)).run Tryz.prog w = .ok (.slice (some ⟨w.heap.size,0,none⟩) 16 16) (w.alloc (.cells (List.replicate 16 (.int .u32 0)).toArray 109)):=by
 obtain⟨i,z',hi,hz,hsz,hby,hzs,hzc⟩:=elems_u32.open;have hr:=run_make (P:=Tryz.prog) w 24 109 i z' elems_u32.1 hi hz .i64 .i64 16 16 (by omega) (by omega) (by rw[hby];omega) (by omega);have hc:z'.cells = #[.int .u32 0]:=by
  apply Array.ext';rw[hzc]
 have hm:madeCells z'.cells (16*i.size)=(List.replicate 16 (Value.int .u32 0)).toArray:=by
  rw[hsz,Nat.mul_one,hc];apply Array.ext';rw[toList_madeCells_one]
 have e16:(16:Int).toNat=16:=rfl;rw[e16,hm]at hr;exact hr
theorem ziH(l:List S14.C)(F:S14.C→S14.P)(N':S14.N)(a:Option Addr)(cap:Nat)(w:World)(hrd:Rd w a (zdB l))(hck:S14.check l=0)(HF:zoB l F)(HOp:zeD w ⟨l,l.map F,List.replicate 16 0,1⟩ N') :
 Calls Tryz.prog 15 #[.slice a l.length cap] w fun e w'=>∃L,e = .returned (.tuple #[NV N' L,.int .i64 0])∧(∀W,KepX (fun k=>k<w.heap.size) w' W→NIs N' L W)∧Below w.heap.size w w':=by
 obtain⟨hl1,hl16,hok⟩:=S14.check_zero hck;obtain⟨g,o,rfl,hcs⟩:=hrd (fun e=>by have h:=yQ List.length e;rw[yS,List.length_nil]at h;omega)
 have HC:=zD fun(W:World) (hW:Below w.heap.size w W)=>(show Calls Tryz.prog 37 #[.slice (some ⟨g,o,none⟩) l.length cap] W fun e w'=>e = .returned (.int .i64 0)∧Below W.heap.size W w' by
  have:=zmD l (some ⟨g,o,none⟩) cap W (by omega) (hrd.step hW);rwa[hck]at this)
 have HCl:=zD fun(W:World) (hW:Below w.heap.size w W)=>zjS (zdB l) l.length (by rw[yS,Nat.mul_comm]) (zkO _) g o cap W hl1 (by omega) (hrd.step hW);have HO:=zD fun(x:S14.C) W=>(show Calls Tryz.prog 43 #[.agg #[.int .i64 x.kind,.int .i64 x.bits,.int .i64 x.limit,.int .i64 x.rate,.int .i64 x.first,.int .i64 x.second]] W _ from zeJ x W);have HFr:=zD HF;have Hok:=zD hok;have HOP:=zD HOp;have Hrd:=zD hrd;obtain⟨nc,hnc⟩:∃n,l.length=n:=⟨_,rfl⟩;rw[hnc]at HC HCl hl1 hl16;have Hnc:=zD hnc;rw[hnc];clear hrd hcs hck HF HOp hok hnc;obtain⟨W1,hW1⟩:∃W1,w.alloc (.cells zN 26)=W1:=⟨_,rfl⟩;have k1:Blk W1 w.heap.size [.slice none 0 0,.slice none 0 0,.slice none 0 0,.int .i64 0] 26:=by rw[←hW1];exact Blk.new w _ _
 have B1:Below w.heap.size w W1:=by rw[←hW1];exact(zJ _ _).alloc (zF _) _
 unfold zN at hW1;go_enter Tryz.func15,Tryz.ntmps15;go_wp2_with (rw[hW1]);refine(HC.out _ B1).mono ?_;rintro e w2 ⟨rfl,hb2⟩;have k2:=k1.step hb2;have B2:=zA B1 hb2;clear k1 B1 hb2 hW1;go_wp2_with fail;have hz2:=B2.size;have kz2:=k2.lt;obtain⟨D,hD⟩:∃D,w2.heap.size=D:=⟨_,rfl⟩;rw[hD]at hz2 kz2;refine zbL 5 1 (.read 0 (.two (.one 1 (.two (.one 2 (.read 3 (.one 4 .done))) (.one 4 (.one 2 (.read 3 .done))))) (.two (.one 2 (.two (.one 1 (.read 3 (.one 4 .done))) (.one 4 (.one 1 (.read 3 .done))))) (.one 4 (.two (.one 1 (.one 2 (.read 3 .done))) (.one 2 (.one 1 (.read 3 .done)))))))) _ _ o0P (fun K=>Below w2.heap.size w2 K) (by kernel_rfl) (zaS 5 _).symm (by kernel_rfl) (by kernel_rfl) (by kernel_rfl) (by kernel_rfl) ((zJ _ _).drew) (fun Y Q4 F4 hY hF=> ?_);simp only[Plan.map,ltc,ltz,ldc,ldz,List.getD_cons_zero,List.getD_cons_succ]
 repeat
  apply yA (by rw[hY];rfl)
  ·intro w2 hS2;(try simp only[Keeps,Cells]at hS2);go_simp;with_reducible rfl
  simp only[zpA]
 have fin:∀(b1:Option Addr) (c1 X NB:Nat) (w6:World),Below w2.heap.size w2 w6→w6.ownsRow D 54 6 (.slice b1 nc c1) nc (zdB l)→Blk w6 X (List.replicate 16 (.int .u32 0)) 109→Blk w6 NB [.slice none 0 0,.slice none 0 0,.slice none 0 0,.int .i64 0] 26→D≤X→D≤NB→X≠NB→
  F4 {tmps:=#[Value.slice (some {block:=g,off:=o}) nc cap,undef,
   Value.pointer (some {block:=w.heap.size,off:=0}),Value.int IntKind.i64 0,Value.int IntKind.i64 0,
   Value.pointer (some {block:=NB,off:=0}),undef,undef,Value.slice (some {block:=g,off:=o}) nc cap,Value.int IntKind.i64 0,
   Value.int IntKind.i64 0,Value.bool false,undef,undef,Value.slice (some {block:=g,off:=o}) nc cap,.slice b1 nc c1,.slice (some ⟨X,0,none⟩) 16 16,.agg #[.slice b1 nc c1,.slice none 0 0,.slice (some ⟨X,0,none⟩) 16 16,.int .i64 1],undef,undef,undef,undef,undef,undef,undef,undef,undef,undef,undef,undef,undef,undef,undef,undef,undef],defers:=[]} w6:=by
  intro b1 c1 X NB w6 hb6 hown kX kN h1 h2 h3;refine hF.out _ _ (fun K hK=> ?_);clear hF hY HC HCl;refine yD 26 (.tmp 5) (.tmp 17) (by rfl) (by rfl) NB (by rfl) [.slice b1 nc c1,.slice none 0 0,.slice (some ⟨X,0,none⟩) 16 16,.int .i64 1] (by rfl) _ 26 kN info_N rfl (by simp[Value.oneCell']) ?_;intro wL EL gL sL;go_wp2_with fail;refine OnlyK.mk (hK.out _ _ ?_);clear hK;have hXn:X≠NB:=h3;have kXL:Blk wL X (List.replicate 16 (.int .u32 0)) 109:=kX.keptRow gL (by simpa using h3);have hownN:=zbI hown kN (by decide);have B6:=zA B2 hb6;have BL:Below w.heap.size w wL:=B6.trans (yC gL (by omega) B6.size);obtain⟨gC,hgC,hgD,hrC,hCN,hCc⟩:∃gC,b1=some ⟨gC,0,none⟩∧D≤gC∧Rd wL b1 (zdB l)∧gC≠NB∧nc≤c1∧c1≤maxLen:=by
   rcases hown.2 with⟨e,e2⟩|⟨g2,cap',cur,e,hb',hg',h5,h6,_⟩
   ·omega
   ·simp only[Value.slice.injEq]at e;obtain⟨rfl,_,rfl⟩:=e;have hne:g2≠NB:=fun e=>hownN (by rw[e];rfl);refine⟨g2,rfl,hb',?_,hne,h5,h6⟩;exact Rd.kepX (X:=fun k=>k=NB) (Rd.of_owns hown) (KepX.row gL (fun b e=>.inl (zL e).symm)) (fun g o e=>by cases e;exact hne)
  have hlC:gC<wL.heap.size:=by
   obtain⟨g2,o2,e2,hcs⟩:=hrC (fun e=>by have h:=yQ List.length e;have:=Hnc.out;rw[yS,List.length_nil]at h;omega);rw[hgC]at e2;cases e2;obtain⟨v0,hv0⟩:∃v,(zdB l)[0]? = some v:=⟨_,zG (by have:=Hnc.out;rw[yS];omega)⟩;exact zI (hcs 0 v0 hv0)
  have k2L:Blk wL w.heap.size [.slice none 0 0,.slice none 0 0,.slice none 0 0,.int .i64 0] 26:=(k2.step hb6).keptRow gL (by simp;omega);have HrC:=zD hrC;have hlX:=kXL.lt;have hlN:=EL.lt;obtain⟨G,hG⟩:∃G,wL.heap.size=G:=⟨_,rfl⟩;rw[hG]at hlC hlX hlN;have hzL:w.heap.size≤G:=by rw[←hG];exact BL.size
  clear hown hownN hrC kN kX gL sL k2 B2 hb6 B6 h3;subst hgC;go_wp2_with fail
  go_loopw [20] (fun i wr=>∃(k:Nat) (a:Option Addr) (c:Nat) (ys:List Lay),k≤nc∧i = .int .i64 (k:Int)∧ys.length=k∧Hid (wr.ownsRow G 83 16 (.slice a k c) k (PCs ((l.take k).map F) ys))∧
   Blk wr NB [.slice (some ⟨gC,0,none⟩) nc c1,.slice a k c,.slice (some ⟨X,0,none⟩) 16 16,.int .i64 1] 26∧KepX (fun k=>k=NB) wL wr∧
   Hid (∀(j:Nat) (p:S14.P) (y:Lay),((l.take k).map F)[j]? = some p→ys[j]? = some y→PRobX (XNew w.heap.size NB (.slice a k c)) p y wr)) (fun i _=>nc-(intOf i).toNat)
  case atStart=>exact⟨0,none,0,[],by omega,rfl,rfl,zD (World.ownsRow_nil wL _ _ _),EL,KepX.refl _ _,zD (fun j p y h=>by simp at h)⟩
  case round=>
   clear EL;obtain⟨k,a,c,ys,hk,rfl,hys,hown,EB,hKX,hrob⟩:=hrel;have hzr:G≤wr.heap.size:=by rw[←hG];exact hKX.size
   have hBr:Below w.heap.size w wr:=hKX.toBelow BL (fun k e=>by omega);by_cases hlt:k<nc
   ·have hkz:(k:Int)<(nc:Int):=by omega
    obtain⟨x,hx⟩:∃x,l[k]? = some x:=⟨_,zG (by have:=Hnc.out;omega)⟩;obtain⟨g1,o1,e1,hcs1⟩:=(Hrd.out.step hBr) (fun e=>by have h:=yQ List.length e;have:=Hnc.out;rw[yS,List.length_nil]at h;omega);cases e1;obtain⟨x0,x1,x2,x3,x4,x5⟩:=zjO hcs1 hx;have hoki:=Hok.out k x hx;have hkd:=(S14.ok_is hoki).kind;have HX0:=zD (HFr.out k x hx hoki);have Hx:=zD hx;have hgr:g<wr.heap.size:=zI x0;obtain⟨W5,hW5⟩:∃W5,wr.alloc (.cells #[.int .i64 x.kind,.int .i64 x.bits,.int .i64 x.limit,.int .i64 x.rate,.int .i64 x.first,.int .i64 x.second] 54)=W5:=⟨_,rfl⟩;obtain⟨Q,hQ⟩:∃Q,wr.heap.size=Q:=⟨_,rfl⟩;have kQ:Blk W5 Q [.int .i64 x.kind,.int .i64 x.bits,.int .i64 x.limit,.int .i64 x.rate,.int .i64 x.first,.int .i64 x.second] 54:=by rw[←hW5,←hQ];exact Blk.new wr _ _
    have hb5:Below wr.heap.size wr W5:=by rw[←hW5];exact(zJ _ _).alloc (zF _) _
    have k05:=EB.step hb5;have KX5:=hKX.trans (KepX.below hb5);have hz5:G≤W5.heap.size:=yF hzr hb5.size;have Hown5:=zD (yO (B:=0) hown.out hb5);have Hrob5:=zD (show∀(j:Nat) (p:S14.P) (y:Lay),((l.take k).map F)[j]? = some p→ys[j]? = some y→PRobX (XNew w.heap.size NB (.slice a k c)) p y W5 from fun j p y h1 h2=>(hrob.out j p y h1 h2).kep (KepX.below hb5))
    have hCS:Cells W5 [(⟨Q,0,none⟩,.int .i64 x.kind),(⟨Q,1,none⟩,.int .i64 x.bits),(⟨Q,2,none⟩,.int .i64 x.limit),(⟨Q,3,none⟩,.int .i64 x.rate),(⟨Q,4,none⟩,.int .i64 x.first),(⟨Q,5,none⟩,.int .i64 x.second),(⟨NB,1,none⟩,.slice a k c)]:=
     ⟨kQ.cell 0,kQ.cell 1,kQ.cell 2,kQ.cell 3,kQ.cell 4,kQ.cell 5,k05.cell 1,yJ⟩
    clear hb5 hown hrob EB hKX hcs1 hoki hx;go_wp2_with (first|(rw[hW5,hQ])|(rw[hW5])|fail);clear x0 x1 x2 x3 x4 x5;unfold FreshF CV yB at HX0;obtain⟨TT,FF,hof,hX3,hen,hme,hah⟩:∃(TT:TypeId) (FF:FuncId),OfV x = .iface TT (.agg #[.int .i64 x.kind,.int .i64 x.bits,.int .i64 x.limit,.int .i64 x.rate,.int .i64 x.first,.int .i64 x.second])∧(∀W,Calls Tryz.prog FF #[.agg #[.int .i64 x.kind,.int .i64 x.bits,.int .i64 x.limit,.int .i64 x.rate,.int .i64 x.first,.int .i64 x.second]] W fun e w'=>∃y,e = .returned (PV (F x) y)∧PRob 0 W.heap.size (F x) y w'∧Below W.heap.size W w')∧(∀args w,(callFunc FF args).run Tryz.prog w = .ok (.enter FF args) w)∧(∀w,(method 410 TT (.agg #[.int .i64 x.kind,.int .i64 x.bits,.int .i64 x.limit,.int .i64 x.rate,.int .i64 x.first,.int .i64 x.second]) "compactor/network.fresh").run Tryz.prog w = .ok (FF,(.agg #[.int .i64 x.kind,.int .i64 x.bits,.int .i64 x.limit,.int .i64 x.rate,.int .i64 x.first,.int .i64 x.second])) w)∧(∀w,(nilAhead 410 TT (.agg #[.int .i64 x.kind,.int .i64 x.bits,.int .i64 x.limit,.int .i64 x.rate,.int .i64 x.first,.int .i64 x.second]) "compactor/network.fresh").run Tryz.prog w = .ok (some false) w):=by
     by_cases k0:x.kind=0
     ·refine⟨115,171,?_,?_,enters_of Tryz.func171 (by kernel_rfl) rfl,zhE _,zgM _⟩
      ·unfold OfV CV yB;simp only[k0];rfl
      ·intro W;have:=HX0.out W;simp only[k0]at this⊢;exact this
     by_cases k1:x.kind=1
     ·refine⟨116,184,?_,?_,enters_of Tryz.func184 (by kernel_rfl) rfl,zkA _,zjA _⟩
      ·unfold OfV CV yB;simp only[k1];rfl
      ·intro W;have:=HX0.out W;simp only[k1]at this⊢;exact this
     by_cases k2:x.kind=2
     ·refine⟨117,213,?_,?_,enters_of Tryz.func213 (by kernel_rfl) rfl,ziS _,zhX _⟩
      ·unfold OfV CV yB;simp only[k2];rfl
      ·intro W;have:=HX0.out W;simp only[k2]at this⊢;exact this
     by_cases k3:x.kind=3
     ·refine⟨118,229,?_,?_,enters_of Tryz.func229 (by kernel_rfl) rfl,ziR _,zhW _⟩
      ·unfold OfV CV yB;simp only[k3];rfl
      ·intro W;have:=HX0.out W;simp only[k3]at this⊢;exact this
     by_cases k4:x.kind=4
     ·refine⟨119,256,?_,?_,enters_of Tryz.func256 (by kernel_rfl) rfl,ziT _,zhY _⟩
      ·unfold OfV CV yB;simp only[k4];rfl
      ·intro W;have:=HX0.out W;simp only[k4]at this⊢;exact this
     by_cases k5:x.kind=5
     ·refine⟨120,263,?_,?_,enters_of Tryz.func263 (by kernel_rfl) rfl,zlO _,zkK _⟩
      ·unfold OfV CV yB;simp only[k5];rfl
      ·intro W;have:=HX0.out W;simp only[k5]at this⊢;exact this
     by_cases k6:x.kind=6
     ·refine⟨121,284,?_,?_,enters_of Tryz.func284 (by kernel_rfl) rfl,ziQ _,zhV _⟩
      ·unfold OfV CV yB;simp only[k6];rfl
      ·intro W;have:=HX0.out W;simp only[k6]at this⊢;exact this
     omega
    have HX:=zD hX3;clear hX3 HX0;go_wp2_with fail;refine zpD 7 2 [(U,[U,U,U]),(zoZ,[zoZ,zoZ,zoZ,U]),(zoZ,[zoZ,zoZ,zoZ,zoZ,U]),(zoZ,[zoZ,zoZ,zoZ,zoZ,zoZ,U]),(zoZ,[zoZ,zoZ,zoZ,zoZ,zoZ,zoZ,U])] (fun K=>Below G W5 K∧Cells K [(⟨Q,0,none⟩,.int .i64 x.kind),(⟨Q,1,none⟩,.int .i64 x.bits),(⟨Q,2,none⟩,.int .i64 x.limit),(⟨Q,3,none⟩,.int .i64 x.rate),(⟨Q,4,none⟩,.int .i64 x.first),(⟨Q,5,none⟩,.int .i64 x.second),(⟨NB,1,none⟩,.slice a k c)]) (by kernel_rfl) (⟨((zJ _ _).drew).mono hz5,hCS⟩) (fun Y Q4 F4 hY hF=> ?_);simp only[zpB]
    repeat
     apply zE (by rw[hY];rfl)
     ·intro w2 hS2;(try simp only[Keeps,Cells]at hS2);go_simp;with_reducible rfl
     simp only[zpA]
    apply zS (by rw[hY];rfl)
    ·go_simp;with_reducible exact⟨rfl,rfl⟩
    refine(HO.out x _).mono ?_;rintro e w6 ⟨rfl,hb6⟩;have hb56:Below W5.heap.size W5 w6:=zA ((zJ _ _).drew) hb6;have hcs6:Cells w6 [(⟨Q,0,none⟩,.int .i64 x.kind),(⟨Q,1,none⟩,.int .i64 x.bits),(⟨Q,2,none⟩,.int .i64 x.limit),(⟨Q,3,none⟩,.int .i64 x.rate),(⟨Q,4,none⟩,.int .i64 x.first),(⟨Q,5,none⟩,.int .i64 x.second),(⟨NB,1,none⟩,.slice a k c)]:=Cells.step hb56 hCS;refine⟨_,rfl,⟨hb56.mono hz5,hcs6⟩,?_⟩;simp only[zpA];rw[hof];apply zS (by rw[hY];rfl)
    ·go_simp;first|with_reducible exact⟨rfl,rfl⟩|with_reducible rfl
    refine(HX.out w6).mono ?_;rintro e w7 ⟨y,rfl,hY7,hb7⟩;have hcs7:Cells w7 [(⟨Q,0,none⟩,.int .i64 x.kind),(⟨Q,1,none⟩,.int .i64 x.bits),(⟨Q,2,none⟩,.int .i64 x.limit),(⟨Q,3,none⟩,.int .i64 x.rate),(⟨Q,4,none⟩,.int .i64 x.first),(⟨Q,5,none⟩,.int .i64 x.second),(⟨NB,1,none⟩,.slice a k c)]:=Cells.step hb7 hcs6;have hb57:Below W5.heap.size W5 w7:=zA hb56 hb7;refine⟨_,rfl,⟨hb57.mono hz5,hcs7⟩,?_⟩;simp only[zpA];have hb8:Below w7.heap.size w7 (w7.alloc (.cells (yG (F x) y).toArray 83)):=(zJ _ _).alloc (zF _) _;have hb58:=zA hb57 hb8;have hcs8:=Cells.step hb8 hcs7;have Hh8:=zD (yO (B:=0) Hown5.out hb58);have Hr8:Hid (Rd (w7.alloc (.cells (yG (F x) y).toArray 83)) (some ⟨w7.heap.size,0,none⟩) (yG (F x) y)):=zD (fun _=>⟨_,0,rfl,(Blk.new w7 (yG (F x) y) 83).cells⟩);have k08:=k05.step hb58;have kQ8:=kQ.step hb58;have hz8:G≤(w7.alloc (.cells (yG (F x) y).toArray 83)).heap.size:=yF hz5 hb58.size;have hz67:w6.heap.size≤w7.heap.size:=hb7.size;have hz56:W5.heap.size≤w6.heap.size:=hb56.size;have HY8:Hid (PRob 0 w6.heap.size (F x) y (w7.alloc (.cells (yG (F x) y).toArray 83))):=zD (hY7.kept (Kept.below hb8));unfold PV;obtain⟨v0,v1,v2,v3,v4,v5,v6,v7,v8,v9,v10,v11,v12,v13,v14,v15,hVS⟩:=PVals_16 (F x) y;rw[hVS]at hb8 hb58 hcs8 Hh8 Hr8 k08 kQ8 hz8 HY8⊢;have HVS:=zD hVS;clear hVS hY7;refine zbS (by rw[hY];rfl) (by go_simp;first|with_reducible exact⟨rfl,rfl⟩|with_reducible rfl) ((show Below G W5 (w7.alloc (.cells #[v0,v1,v2,v3,v4,v5,v6,v7,v8,v9,v10,v11,v12,v13,v14,v15] 83))∧Cells (w7.alloc (.cells #[v0,v1,v2,v3,v4,v5,v6,v7,v8,v9,v10,v11,v12,v13,v14,v15] 83)) [(⟨Q,0,none⟩,.int .i64 x.kind),(⟨Q,1,none⟩,.int .i64 x.bits),(⟨Q,2,none⟩,.int .i64 x.limit),(⟨Q,3,none⟩,.int .i64 x.rate),(⟨Q,4,none⟩,.int .i64 x.first),(⟨Q,5,none⟩,.int .i64 x.second),(⟨NB,1,none⟩,.slice a k c)]from⟨hb58.mono hz5,hcs8⟩)) ?_;simp only[zpA];generalize w7.alloc (.cells #[v0,v1,v2,v3,v4,v5,v6,v7,v8,v9,v10,v11,v12,v13,v14,v15] 83)=w8 at *;refine zbV (.tmp 25) (.tmp 29) 23 83 16 240 _ G zgH (.slice a k c) k (PCs ((l.take k).map F) ys) ⟨w7.heap.size,0,none⟩ 1 1 [v0,v1,v2,v3,v4,v5,v6,v7,v8,v9,v10,v11,v12,v13,v14,v15] (by rw[hY];rfl) rfl rfl rfl rfl (by simp) (HVS.out▸zbD (F x) y) (by unfold maxLen;omega) (by omega) Hh8.out Hr8.out hz8 ?_;intro a9 c9 w9 hown9 hg9 hat9;have hneN:=zbI Hh8.out k08 (by decide);have hneQ:=zbI Hh8.out kQ8 (by decide);have k09:=k08.keptRow hg9 (Ne.symm hneN);have kQ9:=kQ8.keptRow hg9 (Ne.symm hneQ);have hB9:Below G w8 w9:=Below.grown (zJ _ _) hg9 hz8 (fun r e=>(zcN Hh8.out e).1);have hB59:Below G W5 w9:=(hb58.mono hz5).trans hB9;have hKX8:KepX (fun k=>k=NB) wL w8:=KX5.trans (KepX.below hb58);have hKX9:KepX (fun k=>k=NB) wL w9:=hKX8.rowB hg9 (fun b e=>.inr (by rw[hG];exact(zcN Hh8.out e).1))
    have Hown9:Hid (w9.ownsRow G 83 16 (.slice a9 (k+1) c9) (k+1) (PCs ((l.take (k+1)).map F) (ys ++ [y]))):=zD (by
     rw[zkV Hx.out,List.map_append,List.map_cons,List.map_nil,PCs_snoc _ _ _ _ (by rw[hys,zbF,List.length_take];have:=Hnc.out;omega),HVS.out];exact hown9)
    have Hrob9:Hid (∀(j:Nat) (p:S14.P) (y':Lay),((l.take (k+1)).map F)[j]? = some p→(ys ++ [y])[j]? = some y'→PRobX (XNew w.heap.size NB (.slice a9 (k+1) c9)) p y' w9):=zD (fun j p y' h1 h2=>by
     have h8:PRobX (XNew w.heap.size NB (.slice a k c)) p y' w8:=by
      rw[zkV Hx.out,List.map_append,List.map_cons,List.map_nil]at h1;have hlk:((l.take k).map F).length=k:=by rw[zbF,List.length_take];have:=Hnc.out;omega
      rcases Nat.lt_trichotomy j k with hj|hj|hj
      ·rw[zeE (by omega)]at h1 h2;exact(Hrob5.out j p y' h1 h2).kep (KepX.below hb58)
      ·subst hj;rw[yW (by omega),hlk,Nat.sub_self]at h1;rw[yW (by omega),hys,Nat.sub_self]at h2;simp only[lgz,Option.some.injEq]at h1 h2;subst h1;subst h2;refine HY8.out.toX (fun b _ hb=>⟨Nat.zero_le _,?_⟩);rcases hb with hb|rfl|hb
       ·omega
       ·omega
       ·have:=(Hown5.out.lt b hb).2;omega
      ·rw[yW (by omega),yZ (by simp;omega)]at h1;cases h1
     exact h8.append hg9 (fun b e=>.inr (.inr e)) (fun b hb hx=>by
      rcases hx with h|h|h
      ·exact .inl h
      ·exact .inr (.inl h)
      ·rcases hat9 with e|e
       ·exact .inr (.inr (e▸h))
       ·rw[e]at h;cases h;omega))
    have hz9:=hB59.size;clear hown9 hg9 hat9 hneN hneQ hKX8 HY8 Hrob5 Hown5 Hh8 Hr8;refine⟨⟨hB59,kQ9.cell 0,kQ9.cell 1,kQ9.cell 2,kQ9.cell 3,kQ9.cell 4,kQ9.cell 5,k09.cell 1,yJ⟩,?_⟩;simp only[zpA];refine zV (hF.out _ _ (fun K hK=> ?_));clear hF hY;have f1:=k09.cell 1;have f1f:=k09.free 1;have EB':=k09.set 1 (.slice a9 (k+1) c9);simp only[sC0,sCs,lgz,lgs]at f1 EB';go_wp2_with fail;refine OnlyK.mk (hK.out _ _ ?_);clear hK;have hgs:=zaR w9 NB 1 (.slice a9 (k+1) c9);have hKX':=hKX9.trans (KepX.row hgs (fun b e=>.inl (zL e).symm));have Hown':=zD (zdD Hown9.out hgs hlN);have Hrob':=zD (show∀(j:Nat) (p:S14.P) (y':Lay),((l.take (k+1)).map F)[j]? = some p→(ys ++ [y])[j]? = some y'→PRobX (XNew w.heap.size NB (.slice a9 (k+1) c9)) p y' (w9.setCell ⟨NB,1,none⟩ (.slice a9 (k+1) c9))from fun j p y' h1 h2=>(Hrob9.out j p y' h1 h2).kep (KepX.row hgs (fun b e=>.inl (.inr (.inl (zL e).symm)))));generalize w9.setCell ⟨NB,1,none⟩ (.slice a9 (k+1) c9)=w10 at *;clear Hown9 Hrob9 hgs f1 f1f hKX9 k09 kQ9;go_wp2;go_roundw
    case rel=>exact⟨k+1,a9,c9,ys ++ [y],by omega,by simp,by rw[List.length_append,hys];rfl,Hown',EB',hKX',Hrob'⟩
    case measure=>simp[intOf];omega
   ·obtain rfl:k=nc:=by omega
    obtain⟨hc1,hc2⟩:k≤c∧c≤maxLen:=by
     obtain⟨a0,c0,e,h1,h2⟩:=zbA hown.out;simp only[Value.slice.injEq]at e;omega
    have htk:l.take k=l:=List.take_of_length_le (by rw[Hnc.out];exact zF _);have k2r:=k2L.kepX hKX (by omega);rw[htk]at hown hrob;have hlm:(l.map F).length=k:=by rw[zbF];exact Hnc.out
    have hNI:∀W2,KepX (fun k=>k≤w.heap.size) wr W2→NIs ⟨l,l.map F,List.replicate 16 0,1⟩ ⟨some ⟨gC,0,none⟩,c1,a,c,some ⟨X,0,none⟩,16,ys⟩ W2:=fun W2 h2=>
     {rc:=(HrC.out.kepX hKX (fun g o e=>by cases e;exact hCN)).kepX h2 (fun g o e=>by cases e;omega)
      rp:=(Rd.of_owns hown.out).kepX h2 (fun g o e=>by
       have:=(hown.out.lt g (by rw[e];rfl)).1;omega)
      rx:=(show Rd wr (some ⟨X,0,none⟩) (zeS (List.replicate 16 0))from fun _=>⟨X,0,rfl,(kXL.kepX hKX hXn).cells⟩).kepX h2 (fun g o e=>by cases e;omega)
      ly:=by rw[hys];exact hlm.symm
      ps:=fun j p y h1 h3=>((hrob.out j p y h1 h3).change (fun b _ hb=>.inl hb)).kep h2 |>.is
      xs:=fun x hx=>by have:=List.eq_of_mem_replicate hx;omega
      l1:=⟨by show l.length≤_;rw[Hnc.out];exact hCc.1,hCc.2⟩
      l2:=⟨by show(l.map F).length≤_;rw[hlm];exact hc1,hc2⟩
      l3:=⟨by simp,by simp⟩}
    have HPo:=HOP.out ⟨some ⟨gC,0,none⟩,c1,a,c,some ⟨X,0,none⟩,16,ys⟩ wr (fun k=>k≤w.heap.size) hBr (fun k e=>by have e:k≤w.heap.size:=e;omega) hNI (by
     show wr.ownsRow w.heap.size 83 16 (.slice a (l.map F).length c) (l.map F).length (PCs (l.map F) ys)
     rw[hlm];exact zbG hown.out hzL) (fun j p y h1 h3=>(hrob.out j p y h1 h3).change (fun b _ hb=>by
      rcases hb with h|h
      ·exact .inl h
      ·refine .inr (.inr ?_);have h:(Value.slice a (l.map F).length c).ownBlock=some b:=h;rwa[hlm]at h)) (fun b hb=>by
      show¬b≤w.heap.size;have hb:(Value.slice a (l.map F).length c).ownBlock=some b:=hb;rw[hlm]at hb;have:=(hown.out.lt b hb).1;omega) (fun W2 h2=>by
      have h2:KepX (fun k=>k≤w.heap.size∨(Value.slice a (l.map F).length c).ownBlock=some k) wr W2:=h2;rw[hlm]at h2
      exact⟨(HrC.out.kepX hKX (fun g o e=>by cases e;exact hCN)).kepX h2 (fun g o e=>by cases e;exact fun h=>h.elim (fun h=>by have h:gC≤w.heap.size:=h;omega) (fun h=>by have:=(hown.out.lt _ h).1;omega)),
       (show Rd wr (some ⟨X,0,none⟩) (zeS (List.replicate 16 0))from fun _=>⟨X,0,rfl,(kXL.kepX hKX hXn).cells⟩).kepX h2 (fun g o e=>by cases e;exact fun h=>h.elim (fun h=>by have h:X≤w.heap.size:=h;omega) (fun h=>by have:=(hown.out.lt _ h).1;omega))⟩)
    unfold NV zaI at HPo;simp only[hlm,Hnc.out,List.length_replicate]at HPo;have hfar:∀b,(Value.slice a k c).ownBlock=some b→G≤b:=fun b hb=>(hown.out.lt b hb).1;have Hfar:=zD hfar;clear hfar;have HPO:=zD HPo;clear HPo hNI hown hrob htk hKX;go_wp2_with (first
     | (refine zT 26 (.tmp 5) (by rfl) (by rfl) NB (by rfl) [.slice (some ⟨gC,0,none⟩) k c1,.slice a k c,.slice (some ⟨X,0,none⟩) 16 16,.int .i64 1] 26 EB _ Tryz.underlying26 rfl info_N ?_))
    refine HPO.out.mono ?_;rintro e w8 ⟨L',rfl,hN',hb8⟩;have HN':=zD hN';have k28:=k2r.kepX hb8 (fun hx=>by have:=Hfar.out _ hx;omega);have B8:=hb8.toBelow hBr (fun b hb=>by have:=Hfar.out _ hb;omega);clear hN' k2r hb8 EB hBr;go_wp2_with (first
     | (refine yD 26 (.tmp 2) (.tmp 34) (by rfl) (by rfl) w.heap.size (by rfl) [.slice L'.a1 N'.comps.length L'.c1,.slice L'.a2 N'.parts.length L'.c2,.slice L'.a3 N'.ctxs.length L'.c3,.int .i64 N'.part] (by rfl) _ 26 k28 info_N rfl (by simp[Value.oneCell']) ?_;intro wM EM gM sM))
    have hL:=run_loadVar_mid wM _ 0 _ _ _ EM.cells Tryz.underlying26 rfl info_N;refine bodyPost_ret (v:=.tuple #[.agg #[.slice L'.a1 N'.comps.length L'.c1,.slice L'.a2 N'.parts.length L'.c2,.slice L'.a3 N'.ctxs.length L'.c3,.int .i64 N'.part],.int .i64 0]) ?_ rfl ?_
    ·exact yV (show Tryz.f15.results = #[.cell 2 26,.tmp 3]from rfl) (p:=⟨w.heap.size,0,none⟩) rfl rfl hL
    ·exact⟨L',rfl,fun W hW=>HN'.out W ((KepX.row gM (fun b e=>.inl (by show _≤_;have:=zL e;omega))).trans (hW.mono (fun b _ h=>by show _≤_;have h:b<w.heap.size:=h;omega))),B8.trans (yC gM (zF _) B8.size)⟩
 have b0:Below w2.heap.size w2 w2.drew:=(zJ _ _).drew;obtain⟨u0,hu0⟩:∃v,w2.drew=v:=⟨_,rfl⟩;rw[hu0]at b0⊢;have hzz:w2.heap.size=u0.heap.size:=by rw[←hu0];rfl
 refine zaE ?_ (zaE ?_ ?_)
 ·skip
  apply yK (by rw[hY];rfl)
  ·go_simp;with_reducible exact⟨rfl,rfl⟩
  refine(HCl.out _ (zA B2 b0)).mono ?_;rintro e u1 ⟨q1,c1,rfl,own1,hbC⟩;have b1:Below w2.heap.size w2 u1:=zA b0 hbC;have ownC:=zD own1;have zC:w2.heap.size≤u0.heap.size:=b0.size;have zzC:=hbC.size;clear own1;refine⟨_,rfl,b1,?_⟩;simp only[zpA];refine zaE ?_ ?_
  ·skip
   have hmk:=mk16 u1;have b2:Below w2.heap.size w2 (u1.alloc (.cells (List.replicate 16 (.int .u32 0)).toArray 109)):=b1.alloc b1.size _;refine yH (by rw[hY];rfl) (by go_simp;first|with_reducible exact⟨rfl,rfl⟩|with_reducible rfl) (b2) ?_;simp only[zpA];obtain⟨u2,hu2⟩:∃v,u1.alloc (.cells (List.replicate 16 (.int .u32 0)).toArray 109)=v:=⟨_,rfl⟩;have kX:Blk u2 u1.heap.size (List.replicate 16 (.int .u32 0)) 109:=by rw[←hu2];exact Blk.new u1 _ _
   have zX:w2.heap.size≤u1.heap.size:=b1.size;have lX:=kX.lt;have hbE:Below u1.heap.size u1 u2:=by rw[←hu2];exact(zJ _ _).alloc (zF _) _
   have ownC:=zD (yO (B:=0) ownC.out hbE);have hszu2:u2.heap.size=u1.heap.size+1:=by rw[←hu2];simp
   try rw[hu2]at b2⊢
   repeat
    apply yA (by rw[hY];rfl)
    ·intro w2 hS2;(try simp only[Keeps,Cells]at hS2);go_simp;with_reducible rfl
    simp only[zpA]
   have b3:Below w2.heap.size w2 (u2.alloc (.cells zN 26)):=b2.alloc b2.size _;refine yH (by rw[hY];rfl) (by go_simp;first|with_reducible exact⟨rfl,rfl⟩|with_reducible rfl) (b3) ?_;simp only[zpA];obtain⟨u3,hu3⟩:∃v,u2.alloc (.cells zN 26)=v:=⟨_,rfl⟩;have kN:Blk u3 u2.heap.size [.slice none 0 0,.slice none 0 0,.slice none 0 0,.int .i64 0] 26:=by rw[←hu3];exact Blk.new u2 _ _
   have zN1:w2.heap.size≤u2.heap.size:=b2.size;have lN:=kN.lt;have hbE:Below u2.heap.size u2 u3:=by rw[←hu3];exact(zJ _ _).alloc (zF _) _
   have ownC:=zD (yO (B:=0) ownC.out hbE);have kX:=kX.step hbE;have hszu3:u3.heap.size=u2.heap.size+1:=by rw[←hu3];simp
   try rw[hu3]at b3⊢
   refine yR (fin q1 c1 _ _ _ b3 (zbG ownC.out ?_) (by first|exact kX|(rw[hszu2]at kX;exact kX)|(rw[hszu1]at kX;exact kX)) (by first|exact kN|(rw[hszu2]at kN;exact kN)|(rw[hszu1]at kN;exact kN)) ?_ ?_ ?_);all_goals first|omega|(simp at *;omega)
  ·skip
   have b2:Below w2.heap.size w2 (u1.alloc (.cells zN 26)):=b1.alloc b1.size _;refine yH (by rw[hY];rfl) (by go_simp;first|with_reducible exact⟨rfl,rfl⟩|with_reducible rfl) (b2) ?_;simp only[zpA];obtain⟨u2,hu2⟩:∃v,u1.alloc (.cells zN 26)=v:=⟨_,rfl⟩;have kN:Blk u2 u1.heap.size [.slice none 0 0,.slice none 0 0,.slice none 0 0,.int .i64 0] 26:=by rw[←hu2];exact Blk.new u1 _ _
   have zN1:w2.heap.size≤u1.heap.size:=b1.size;have lN:=kN.lt;have hbE:Below u1.heap.size u1 u2:=by rw[←hu2];exact(zJ _ _).alloc (zF _) _
   have ownC:=zD (yO (B:=0) ownC.out hbE);have hszu2:u2.heap.size=u1.heap.size+1:=by rw[←hu2];simp
   try rw[hu2]at b2⊢
   have hmk:=mk16 u2;have b3:Below w2.heap.size w2 (u2.alloc (.cells (List.replicate 16 (.int .u32 0)).toArray 109)):=b2.alloc b2.size _;refine yH (by rw[hY];rfl) (by go_simp;first|with_reducible exact⟨rfl,rfl⟩|with_reducible rfl) (b3) ?_;simp only[zpA];obtain⟨u3,hu3⟩:∃v,u2.alloc (.cells (List.replicate 16 (.int .u32 0)).toArray 109)=v:=⟨_,rfl⟩;have kX:Blk u3 u2.heap.size (List.replicate 16 (.int .u32 0)) 109:=by rw[←hu3];exact Blk.new u2 _ _
   have zX:w2.heap.size≤u2.heap.size:=b2.size;have lX:=kX.lt;have hbE:Below u2.heap.size u2 u3:=by rw[←hu3];exact(zJ _ _).alloc (zF _) _
   have ownC:=zD (yO (B:=0) ownC.out hbE);have kN:=kN.step hbE;have hszu3:u3.heap.size=u2.heap.size+1:=by rw[←hu3];simp
   try rw[hu3]at b3⊢
   repeat
    apply yA (by rw[hY];rfl)
    ·intro w2 hS2;(try simp only[Keeps,Cells]at hS2);go_simp;with_reducible rfl
    simp only[zpA]
   refine yR (fin q1 c1 _ _ _ b3 (zbG ownC.out ?_) (by first|exact kX|(rw[hszu2]at kX;exact kX)|(rw[hszu1]at kX;exact kX)) (by first|exact kN|(rw[hszu2]at kN;exact kN)|(rw[hszu1]at kN;exact kN)) ?_ ?_ ?_);all_goals first|omega|(simp at *;omega)
 ·skip
  have hmk:=mk16 u0;have b1:Below w2.heap.size w2 (u0.alloc (.cells (List.replicate 16 (.int .u32 0)).toArray 109)):=b0.alloc b0.size _;refine yH (by rw[hY];rfl) (by go_simp;first|with_reducible exact⟨rfl,rfl⟩|with_reducible rfl) (b1) ?_;simp only[zpA];obtain⟨u1,hu1⟩:∃v,u0.alloc (.cells (List.replicate 16 (.int .u32 0)).toArray 109)=v:=⟨_,rfl⟩;have kX:Blk u1 u0.heap.size (List.replicate 16 (.int .u32 0)) 109:=by rw[←hu1];exact Blk.new u0 _ _
  have zX:w2.heap.size≤u0.heap.size:=b0.size;have lX:=kX.lt;have hbE:Below u0.heap.size u0 u1:=by rw[←hu1];exact(zJ _ _).alloc (zF _) _
  have hszu1:u1.heap.size=u0.heap.size+1:=by rw[←hu1];simp
  try rw[hu1]at b1⊢
  refine zaE ?_ ?_
  ·skip
   apply yK (by rw[hY];rfl)
   ·go_simp;with_reducible exact⟨rfl,rfl⟩
   refine(HCl.out _ (zA B2 b1)).mono ?_;rintro e u2 ⟨q1,c1,rfl,own1,hbC⟩;have b2:Below w2.heap.size w2 u2:=zA b1 hbC;have ownC:=zD own1;have zC:w2.heap.size≤u1.heap.size:=b1.size;have zzC:=hbC.size;clear own1;have kX:=kX.step hbC;refine⟨_,rfl,b2,?_⟩;simp only[zpA]
   repeat
    apply yA (by rw[hY];rfl)
    ·intro w2 hS2;(try simp only[Keeps,Cells]at hS2);go_simp;with_reducible rfl
    simp only[zpA]
   have b3:Below w2.heap.size w2 (u2.alloc (.cells zN 26)):=b2.alloc b2.size _;refine yH (by rw[hY];rfl) (by go_simp;first|with_reducible exact⟨rfl,rfl⟩|with_reducible rfl) (b3) ?_;simp only[zpA];obtain⟨u3,hu3⟩:∃v,u2.alloc (.cells zN 26)=v:=⟨_,rfl⟩;have kN:Blk u3 u2.heap.size [.slice none 0 0,.slice none 0 0,.slice none 0 0,.int .i64 0] 26:=by rw[←hu3];exact Blk.new u2 _ _
   have zN1:w2.heap.size≤u2.heap.size:=b2.size;have lN:=kN.lt;have hbE:Below u2.heap.size u2 u3:=by rw[←hu3];exact(zJ _ _).alloc (zF _) _
   have kX:=kX.step hbE;have ownC:=zD (yO (B:=0) ownC.out hbE);have hszu3:u3.heap.size=u2.heap.size+1:=by rw[←hu3];simp
   try rw[hu3]at b3⊢
   refine yR (fin q1 c1 _ _ _ b3 (zbG ownC.out ?_) (by first|exact kX|(rw[hszu2]at kX;exact kX)|(rw[hszu1]at kX;exact kX)) (by first|exact kN|(rw[hszu2]at kN;exact kN)|(rw[hszu1]at kN;exact kN)) ?_ ?_ ?_);all_goals first|omega|(simp at *;omega)
  ·skip
   have b2:Below w2.heap.size w2 (u1.alloc (.cells zN 26)):=b1.alloc b1.size _;refine yH (by rw[hY];rfl) (by go_simp;first|with_reducible exact⟨rfl,rfl⟩|with_reducible rfl) (b2) ?_;simp only[zpA];obtain⟨u2,hu2⟩:∃v,u1.alloc (.cells zN 26)=v:=⟨_,rfl⟩;have kN:Blk u2 u1.heap.size [.slice none 0 0,.slice none 0 0,.slice none 0 0,.int .i64 0] 26:=by rw[←hu2];exact Blk.new u1 _ _
   have zN1:w2.heap.size≤u1.heap.size:=b1.size;have lN:=kN.lt;have hbE:Below u1.heap.size u1 u2:=by rw[←hu2];exact(zJ _ _).alloc (zF _) _
   have kX:=kX.step hbE;have hszu2:u2.heap.size=u1.heap.size+1:=by rw[←hu2];simp
   try rw[hu2]at b2⊢
   apply yK (by rw[hY];rfl)
   ·go_simp;with_reducible exact⟨rfl,rfl⟩
   refine(HCl.out _ (zA B2 b2)).mono ?_;rintro e u3 ⟨q1,c1,rfl,own1,hbC⟩;have b3:Below w2.heap.size w2 u3:=zA b2 hbC;have ownC:=zD own1;have zC:w2.heap.size≤u2.heap.size:=b2.size;have zzC:=hbC.size;clear own1;have kX:=kX.step hbC;have kN:=kN.step hbC;refine⟨_,rfl,b3,?_⟩;simp only[zpA]
   repeat
    apply yA (by rw[hY];rfl)
    ·intro w2 hS2;(try simp only[Keeps,Cells]at hS2);go_simp;with_reducible rfl
    simp only[zpA]
   refine yR (fin q1 c1 _ _ _ b3 (zbG ownC.out ?_) (by first|exact kX|(rw[hszu2]at kX;exact kX)|(rw[hszu1]at kX;exact kX)) (by first|exact kN|(rw[hszu2]at kN;exact kN)|(rw[hszu1]at kN;exact kN)) ?_ ?_ ?_);all_goals first|omega|(simp at *;omega)
 ·skip
  have b1:Below w2.heap.size w2 (u0.alloc (.cells zN 26)):=b0.alloc b0.size _;refine yH (by rw[hY];rfl) (by go_simp;first|with_reducible exact⟨rfl,rfl⟩|with_reducible rfl) (b1) ?_;simp only[zpA];obtain⟨u1,hu1⟩:∃v,u0.alloc (.cells zN 26)=v:=⟨_,rfl⟩;have kN:Blk u1 u0.heap.size [.slice none 0 0,.slice none 0 0,.slice none 0 0,.int .i64 0] 26:=by rw[←hu1];exact Blk.new u0 _ _
  have zN1:w2.heap.size≤u0.heap.size:=b0.size;have lN:=kN.lt;have hbE:Below u0.heap.size u0 u1:=by rw[←hu1];exact(zJ _ _).alloc (zF _) _
  have hszu1:u1.heap.size=u0.heap.size+1:=by rw[←hu1];simp
  try rw[hu1]at b1⊢
  refine zaE ?_ ?_
  ·skip
   apply yK (by rw[hY];rfl)
   ·go_simp;with_reducible exact⟨rfl,rfl⟩
   refine(HCl.out _ (zA B2 b1)).mono ?_;rintro e u2 ⟨q1,c1,rfl,own1,hbC⟩;have b2:Below w2.heap.size w2 u2:=zA b1 hbC;have ownC:=zD own1;have zC:w2.heap.size≤u1.heap.size:=b1.size;have zzC:=hbC.size;clear own1;have kN:=kN.step hbC;refine⟨_,rfl,b2,?_⟩;simp only[zpA];have hmk:=mk16 u2;have b3:Below w2.heap.size w2 (u2.alloc (.cells (List.replicate 16 (.int .u32 0)).toArray 109)):=b2.alloc b2.size _;refine yH (by rw[hY];rfl) (by go_simp;first|with_reducible exact⟨rfl,rfl⟩|with_reducible rfl) (b3) ?_;simp only[zpA];obtain⟨u3,hu3⟩:∃v,u2.alloc (.cells (List.replicate 16 (.int .u32 0)).toArray 109)=v:=⟨_,rfl⟩;have kX:Blk u3 u2.heap.size (List.replicate 16 (.int .u32 0)) 109:=by rw[←hu3];exact Blk.new u2 _ _
   have zX:w2.heap.size≤u2.heap.size:=b2.size;have lX:=kX.lt;have hbE:Below u2.heap.size u2 u3:=by rw[←hu3];exact(zJ _ _).alloc (zF _) _
   have kN:=kN.step hbE;have ownC:=zD (yO (B:=0) ownC.out hbE);have hszu3:u3.heap.size=u2.heap.size+1:=by rw[←hu3];simp
   try rw[hu3]at b3⊢
   repeat
    apply yA (by rw[hY];rfl)
    ·intro w2 hS2;(try simp only[Keeps,Cells]at hS2);go_simp;with_reducible rfl
    simp only[zpA]
   refine yR (fin q1 c1 _ _ _ b3 (zbG ownC.out ?_) (by first|exact kX|(rw[hszu2]at kX;exact kX)|(rw[hszu1]at kX;exact kX)) (by first|exact kN|(rw[hszu2]at kN;exact kN)|(rw[hszu1]at kN;exact kN)) ?_ ?_ ?_);all_goals first|omega|(simp at *;omega)
  ·skip
   have hmk:=mk16 u1;have b2:Below w2.heap.size w2 (u1.alloc (.cells (List.replicate 16 (.int .u32 0)).toArray 109)):=b1.alloc b1.size _;refine yH (by rw[hY];rfl) (by go_simp;first|with_reducible exact⟨rfl,rfl⟩|with_reducible rfl) (b2) ?_;simp only[zpA];obtain⟨u2,hu2⟩:∃v,u1.alloc (.cells (List.replicate 16 (.int .u32 0)).toArray 109)=v:=⟨_,rfl⟩;have kX:Blk u2 u1.heap.size (List.replicate 16 (.int .u32 0)) 109:=by rw[←hu2];exact Blk.new u1 _ _
   have zX:w2.heap.size≤u1.heap.size:=b1.size;have lX:=kX.lt;have hbE:Below u1.heap.size u1 u2:=by rw[←hu2];exact(zJ _ _).alloc (zF _) _
   have kN:=kN.step hbE;have hszu2:u2.heap.size=u1.heap.size+1:=by rw[←hu2];simp
   try rw[hu2]at b2⊢
   apply yK (by rw[hY];rfl)
   ·go_simp;with_reducible exact⟨rfl,rfl⟩
   refine(HCl.out _ (zA B2 b2)).mono ?_;rintro e u3 ⟨q1,c1,rfl,own1,hbC⟩;have b3:Below w2.heap.size w2 u3:=zA b2 hbC;have ownC:=zD own1;have zC:w2.heap.size≤u2.heap.size:=b2.size;have zzC:=hbC.size;clear own1;have kN:=kN.step hbC;have kX:=kX.step hbC;refine⟨_,rfl,b3,?_⟩;simp only[zpA]
   repeat
    apply yA (by rw[hY];rfl)
    ·intro w2 hS2;(try simp only[Keeps,Cells]at hS2);go_simp;with_reducible rfl
    simp only[zpA]
   refine yR (fin q1 c1 _ _ _ b3 (zbG ownC.out ?_) (by first|exact kX|(rw[hszu2]at kX;exact kX)|(rw[hszu1]at kX;exact kX)) (by first|exact kN|(rw[hszu2]at kN;exact kN)|(rw[hszu1]at kN;exact kN)) ?_ ?_ ?_);all_goals first|omega|(simp at *;omega)
theorem zdF(w:World)(N:S14.N)(hl:N.comps.length≤16)(hk6:∀c∈N.comps,0≤c.kind∧c.kind≤6∧c.kind≠2):zeD w N N:=fun L W X hW _ hN _ _ _ _=>
 (zmV N L W (hN W (KepX.refl _ _)) hl hk6).mono fun e w' h=>⟨L,h.1,fun W2 h2=>hN W2 ((KepX.below h.2).trans h2),KepX.below h.2⟩
theorem zaA{P:Program}{Y:Array Value→Nat→Option Bool}{Q:Exit→Act→World→Prop}{S:World→Prop}{G:Act→World→Prop}{w:World}{rest:Plan Oper}{o:Oper}{a:Act}(T:TypeId)(x y:Operand)(ho:o.op = .store T x y)(hw:Region.wanted o (Y a.tmps)=true)
 (b:Nat) (hx:a.eval x = .pointer (some ⟨b,0,none⟩)) (cs:List Value) (hy:a.eval y = .agg cs.toArray) (old:List Value) (t:TypeId) (hB:Blk w b old t) (hi:(P.info? T).map (·.size)=some cs.length) (hold:old.length=cs.length)
 (h1:∀v∈cs,v.oneCell'=true) (h:∀w',Blk w' b cs t→w.grownBy w' (some b)→w'.heap.size=w.heap.size→S w'∧zaN P Y Q S G rest (a.put o.dst undef) w'):zaN P Y Q S G (.one o rest) a w:=by
 obtain⟨k1,k2⟩:=znJ hB cs.toArray;unfold zaN;rw[zY hw];refine .inl (wp_store_row T x y ho b cs.toArray hx hy t old.toArray hB (by simpa using hi) (by simpa using hold) (all_oneCell_toArray h1) (h _ ?_ k2 ?_))
 ·simpa using k1
 ·simp[World.setRow]
def zfR{α:Type}(xs:List α)(o:Nat)(vs:List α):List α:=xs.take o++(vs++xs.drop (o+vs.length))
theorem zfG{α:Type}(xs:List α)(o:Nat)(vs:List α)(h:o+vs.length≤xs.length):(zfR xs o vs).length=xs.length:=by
 unfold zfR;simp;omega
theorem zeU{b:Nat}{e:TypeId}{fz:Nat×Nat}:∀(vs:List Value) (o:Nat) (w:World) (cur:Array Value),w.heap[b]? = some (.cells cur e fz)→∃cur',(w.setCells b o vs).heap[b]? = some (.cells cur' e fz)∧cur'.size=cur.size
 | [],_,_,cur,h=>⟨cur,h,rfl⟩
 | v::vs,o,w,cur,h=>by
   obtain⟨c1,h1,h2⟩:∃c1,(w.setCell ⟨b,o,none⟩ v).heap[b]? = some (.cells c1 e fz)∧c1.size=cur.size:=by
    unfold World.setCell;simp only[h];have hlt:=(Array.getElem?_eq_some_iff.1 h).1;refine⟨cur.setIfInBounds o v,?_,by simp⟩;simp only[Array.getElem?_modify,h,if_true,Option.map_some];rfl
   obtain⟨c2,h3,h4⟩:=zeU vs (o+1) _ c1 h1;exact⟨c2,h3,h4.trans h2⟩
theorem yY(b:Nat):∀(vs:List Value) (o:Nat) (w:World),w.grownBy (w.setCells b o vs) (some b)
 | [],_,w=>⟨rfl,rfl,rfl,zF _,fun _ _ _=>rfl⟩
 | v::vs,o,w=>(zaR w b o v).trans (yY b vs (o+1) _)
theorem zcC{w:World}{base:Nat}{e:TypeId}{size n cap g:Nat}{xs:List Value}(h:w.ownsRow base e size (.slice (some ⟨g,0,none⟩) n cap) n xs){o k:Nat}(ho:o+k≤n*size):w.there g o k:=by
 rcases h.2 with⟨e1,_⟩|⟨g2,cap',cur,e1,hb,hg,hn,hc,hsz,htk⟩
 ·simp at e1
 ·simp only[Value.slice.injEq,Option.some.injEq]at e1;obtain⟨e1,-,rfl⟩:=e1;cases e1;intro j hj;have hlt:o+j<cur.size:=by
   rw[hsz];have:=Nat.mul_le_mul_right size hn;omega
  refine⟨?_,frozen_of_row w g _ cur e hg⟩;rw[cell_of_row w g (o+j) cur e _ hg,Array.getElem?_eq_getElem hlt];rfl
theorem zeA{w:World}{base:Nat}{e:TypeId}{size n cap g:Nat}{xs:List Value}(h:w.ownsRow base e size (.slice (some ⟨g,0,none⟩) n cap) n xs){o:Nat}{vs:List Value}(ho:o+vs.length≤n*size) :
 (w.setCells g o vs).ownsRow base e size (.slice (some ⟨g,0,none⟩) n cap) n (zfR xs o vs):=by
 have hth:=zcC h ho;have hlen:=h.1;refine⟨(zfG xs o vs (by omega)).trans hlen,?_⟩;rcases h.2 with⟨e1,_⟩|⟨g2,cap',cur,e1,hb,hg,hn,hc,hsz,htk⟩
 ·simp at e1
 ·simp only[Value.slice.injEq,Option.some.injEq]at e1;obtain⟨e1,-,rfl⟩:=e1;cases e1;obtain⟨cur',h1,h2⟩:=zeU vs o w cur hg;refine .inr ⟨g,cap,cur',rfl,hb,h1,hn,hc,h2.trans hsz,?_⟩
  have hcur:∀i,i<n*size→cur[i]? = xs[i]? :=fun i hi=>by
   rw[←htk,List.getElem?_take_of_lt hi,Array.getElem?_toList]
  have hnew:∀i,cur'[i]? = (w.setCells g o vs).cell? ⟨g,i,none⟩:=fun i=>(cell_of_row _ g i cur' e _ h1).symm;apply List.ext_getElem?;intro i;by_cases hi:i<n*size
  ·rw[List.getElem?_take_of_lt hi,Array.getElem?_toList,hnew];unfold zfR;by_cases h3:i<o
   ·rw[zeE (by rw[List.length_take];omega),List.getElem?_take_of_lt h3,←hcur i hi,←cell_of_row w g i cur e _ hg];exact World.cell?_setCells_out g vs o w ⟨g,i,none⟩ (fun _ _=>.inl h3)
   ·rw[yW (by rw[List.length_take];omega),List.length_take,Nat.min_eq_left (by omega)];by_cases h4:i<o+vs.length
    ·rw[zeE (by omega)];have:=World.rangeAt_setCells_same w g o vs hth (i-o) _ (zG (by omega));rw[show o+(i-o)=i by omega]at this;rw[this,zG (by omega)]
    ·rw[yW (by omega),List.getElem?_drop,show o+vs.length+(i-o-vs.length)=i by omega,←hcur i hi,←cell_of_row w g i cur e _ hg];exact World.cell?_setCells_out g vs o w ⟨g,i,none⟩ (fun _ _=>.inr (by show o+vs.length≤i;omega))
  ·rw[yZ (by rw[List.length_take];omega),yZ (by rw[zfG xs o vs (by omega)];omega)]
theorem PCs_put:∀(ps:List S14.P) (ys:List Lay) (k:Nat) (p:S14.P) (y:Lay),ys.length=ps.length→k<ps.length→PCs (ps.set k p) (ys.set k y)=zfR (PCs ps ys) (k*16) (yG p y)
 | [],_,_,_,_,_,hk=>by simp at hk
 | _::_,[],_,_,_,h,_=>by simp at h
 | q::ps,z::ys,0,p,y,_,_=>by
   show yG p y++PCs ps ys=zfR (yG q z++PCs ps ys) (0*16) (yG p y);unfold zfR;rw[Nat.zero_mul,List.take_zero,List.nil_append,yP,zaD,List.drop_append,zaD,Nat.sub_self,List.drop_zero,List.drop_of_length_le (by rw[zaD];exact zF _),List.nil_append]
 | q::ps,z::ys,k+1,p,y,h,hk=>by
   show yG q z++PCs (ps.set k p) (ys.set k y)=zfR (yG q z++PCs ps ys) ((k+1)*16) (yG p y);rw[PCs_put ps ys k p y (by simpa using h) (by simpa using hk)];unfold zfR;have e1:(yG q z).take ((k+1)*16)=yG q z:=List.take_of_length_le (by rw[zaD];omega);have e2:(yG q z).drop ((k+1)*16+16) = []:=List.drop_of_length_le (by rw[zaD];omega);rw[zaD p y,List.take_append,List.drop_append,e1,e2,zaD q z,List.nil_append,List.append_assoc,show(k+1)*16-16=k*16 by omega,show(k+1)*16+16-16=k*16+16 by omega]
def LearnF(c:S14.C):FuncId:=
 if c.kind=0 then 172 else if c.kind=1 then 185 else if c.kind=2 then 214 else if c.kind=3 then 230 else if c.kind=4 then 257 else if c.kind=5 then 265 else 285
def S14.parts1(G:Nat→S14.P)(ps:List S14.P):Nat→List S14.P
 | 0=>ps
 | k+1=>(S14.parts1 G ps k).set k (G k)
theorem S14.parts1_length(G:Nat→S14.P)(ps:List S14.P):∀k,(S14.parts1 G ps k).length=ps.length
 | 0=>rfl
 | k+1=>by rw[S14.parts1,zcY,S14.parts1_length G ps k]
theorem S14.outs_take(O:Nat→List Int→Int)(k:Nat):∀n,k≤n→(S14.outs O n).take k=S14.outs O k
 | 0,h=>by obtain rfl:k=0:=by omega
           rfl
 | n+1,h=>by
   by_cases e:k=n+1
   ·subst e;exact List.take_of_length_le (by rw[S14.outs_length];exact zF _)
   ·rw[S14.outs,List.take_append_of_le_length (by rw[S14.outs_length];omega)];exact S14.outs_take O k n (by omega)
theorem Rd.take14{w:World}{a:Option Addr}{vals:List Value}(h:Rd w a vals)(k:Nat):Rd w a (vals.take k):=fun hn=>by
 obtain⟨g,o,e,hr⟩:=h (fun e=>hn (by rw[e,List.take_nil]));refine⟨g,o,e,fun j v hv=> ?_⟩;rw[List.getElem?_take]at hv;split at hv
 ·exact hr j v hv
 ·cases hv
theorem zaO{X:Nat→Prop}{w w':World}{base:Nat}{e:TypeId}{size n:Nat}{v:Value}{xs:List Value}(h:w.ownsRow base e size v n xs)(hk:KepX X w w')(hx:∀g,v.ownBlock=some g→¬X g):w'.ownsRow base e size v n xs:=by
 refine⟨h.1,?_⟩;rcases h.2 with h'|⟨g,cap',cur,h',hb',hg',r⟩
 ·exact .inl h'
 ·exact .inr ⟨g,cap',cur,h',hb',(hk.same g (hx g (by rw[h'];rfl)) (Array.getElem?_eq_some_iff.1 hg').1).trans hg',r⟩
theorem zaQ{w:World}{base:Nat}{e:TypeId}{size n cap:Nat}{a:Option Addr}{xs:List Value}(h:w.ownsRow base e size (.slice a n cap) n xs)(hn:1≤n):∃g,a=some ⟨g,0,none⟩∧base≤g∧g<w.heap.size∧n≤cap∧cap≤maxLen:=by
 rcases h.2 with⟨h',h2⟩|⟨g,cap',cur,h',hb',hg',h3,h4,_⟩
 ·omega
 ·simp only[Value.slice.injEq]at h';obtain⟨rfl,_,rfl⟩:=h';exact⟨g,rfl,hb',(Array.getElem?_eq_some_iff.1 hg').1,h3,h4⟩
theorem zcH{w:World}{base base':Nat}{e e':TypeId}{size n cap size' n' cap' g g' o o':Nat}{xs xs':List Value}(h:w.ownsRow base e size (.slice (some ⟨g,o,none⟩) n cap) n xs)(h':w.ownsRow base' e' size' (.slice (some ⟨g',o',none⟩) n' cap') n' xs')(hne:¬e=e'):g≠g':=by
 intro hg;subst hg;obtain⟨_,c1,h1⟩:=zcN h rfl;obtain⟨_,c2,h2⟩:=zcN h' rfl;rw[h1]at h2;cases h2;exact hne rfl
def S14.next(p bit:Int):Int:=if 2*p+bit>255 then 1 else 2*p+bit
def S14.opens(p:Int):Prop:=p=1∨16≤p∧p≤31
theorem zgL(v:Value)(w:World):(nilAhead 410 115 v "compactor/network.learn").run Tryz.prog w = .ok (some false) w:=by kernel_rfl
theorem zhD(v:Value)(w:World):(method 410 115 v "compactor/network.learn").run Tryz.prog w = .ok (172,v) w:=by kernel_rfl
theorem ziZ(v:Value)(w:World):(nilAhead 410 116 v "compactor/network.learn").run Tryz.prog w = .ok (some false) w:=by kernel_rfl
theorem zjZ(v:Value)(w:World):(method 410 116 v "compactor/network.learn").run Tryz.prog w = .ok (185,v) w:=by kernel_rfl
theorem zhT(v:Value)(w:World):(nilAhead 410 117 v "compactor/network.learn").run Tryz.prog w = .ok (some false) w:=by kernel_rfl
theorem ziO(v:Value)(w:World):(method 410 117 v "compactor/network.learn").run Tryz.prog w = .ok (214,v) w:=by kernel_rfl
theorem zhS(v:Value)(w:World):(nilAhead 410 118 v "compactor/network.learn").run Tryz.prog w = .ok (some false) w:=by kernel_rfl
theorem ziN(v:Value)(w:World):(method 410 118 v "compactor/network.learn").run Tryz.prog w = .ok (230,v) w:=by kernel_rfl
theorem zhU(v:Value)(w:World):(nilAhead 410 119 v "compactor/network.learn").run Tryz.prog w = .ok (some false) w:=by kernel_rfl
theorem ziP(v:Value)(w:World):(method 410 119 v "compactor/network.learn").run Tryz.prog w = .ok (257,v) w:=by kernel_rfl
theorem zkJ(v:Value)(w:World):(nilAhead 410 120 v "compactor/network.learn").run Tryz.prog w = .ok (some false) w:=by kernel_rfl
theorem zlN(v:Value)(w:World):(method 410 120 v "compactor/network.learn").run Tryz.prog w = .ok (265,v) w:=by kernel_rfl
theorem zhR(v:Value)(w:World):(nilAhead 410 121 v "compactor/network.learn").run Tryz.prog w = .ok (some false) w:=by kernel_rfl
theorem ziM(v:Value)(w:World):(method 410 121 v "compactor/network.learn").run Tryz.prog w = .ok (285,v) w:=by kernel_rfl
theorem KepX.old{E X:Nat→Prop}{w0 w W:World}(hb:Below w0.heap.size w0 w)(hk:KepX X w W)(h:∀k,k<w0.heap.size→X k→E k):KepX E w0 W:=
 ⟨hk.os.trans hb.os,hk.tape.trans hb.tape,hk.output.trans hb.output,yF hb.size hk.size,fun k hE hl=>(hk.same k (fun hx=>hE (h k hl hx)) (zaX hl hb.size)).trans (hb.block k hl)⟩
theorem zmA(N N2:S14.N)(L:NLay)(l:List Nat)(a:Option Addr)(cap:Nat)(w:World)(E:Nat→Prop)(hE:∀k,E k→k<w.heap.size)(hNE:∀W,KepX E w W→NIs N L W)(HR:zcQ N L w)(h0:S14.checkNet N=0)(h1:N.part=1)(hl:l.length=16)(hlx:∀x∈l,x<4294967296)(hrd:Rd w a (zeS l))
 (HOp:zeD w ⟨N.comps,N.parts,l,1⟩ N2) :
 Calls Tryz.prog 27 #[NV N L,.slice a 16 cap] w fun e w'=>∃L',e = .returned (.tuple #[NV N2 L',.int .i64 0])∧(∀W,KepX E w' W→NIs N2 L' W)∧Below w.heap.size w w':=by
 have hN:=hNE w (KepX.refl _ _);have HE:=zD hE;have HNE:=zD hNE;obtain⟨hck,hpl,hxl,_,_,_⟩:=S14.checkNet_zero h0;obtain⟨hl0,hl16,_⟩:=S14.check_zero hck;obtain⟨W1,hW1⟩:∃W1,(w.alloc (.cells (zaI N L).toArray 26)).alloc (.cells zN 26)=W1:=⟨_,rfl⟩;have k1:Blk W1 w.heap.size (zaI N L) 26:=by rw[←hW1];exact(Blk.new w _ _).alloc _
 have r1:Blk W1 (w.heap.size+1) [.slice none 0 0,.slice none 0 0,.slice none 0 0,.int .i64 0] 26:=by
  rw[←hW1];have h:=Blk.new (w.alloc (.cells (zaI N L).toArray 26)) [.slice none 0 0,.slice none 0 0,.slice none 0 0,.int .i64 0] 26;rwa[zZ]at h
 have B1:Below w.heap.size w W1:=by rw[←hW1];exact((zJ _ _).alloc (zF _) _).alloc (by simp) _
 have HC:=zD (zdW N L W1 (hN.step B1) (by omega) (fun k c p y h1 h2 h3 h4 W hW=>HR k c p y h1 h2 h3 h4 W (zA B1 hW)));rw[h0]at HC;have HCp:=zD fun(W:World) (hW:Below w.heap.size w W)=>zjQ N L W (hN.step hW) ⟨hl0,hl16⟩ hpl hxl;obtain⟨gl,ol,rfl,_⟩:=hrd (fun e=>by have h:=yQ List.length e;rw[zaC,List.length_nil]at h;omega);have HCl:=zD fun(W:World) (hW:Below w.heap.size w W)=>zmB (zeS l) 16 (by rw[zaC,hl]) (zkN l) gl ol cap W (by decide) (by decide) (hrd.step hW);have HN:=zD hN;have HO:=zD HOp;have Hlx:=zD hlx;have Hl:=zD hl;unfold zN at hW1;clear HR h0 hck HOp hlx hl hrd hE hNE;unfold NV zaI at HC HCp;unfold zaI at k1 hW1;unfold NV zaI;obtain⟨nc,hnc⟩:∃n,N.comps.length=n:=⟨_,rfl⟩;obtain⟨np,hnp⟩:∃n,N.parts.length=n:=⟨_,rfl⟩;obtain⟨nx,hnx⟩:∃n,N.ctxs.length=n:=⟨_,rfl⟩;rw[hnc,hnp,hnx,h1]at HC HCp k1 hW1;rw[hnp,hnc]at hpl;rw[hnx]at hxl;rw[hnc]at hl0 hl16;rw[hnc,hnp,hnx,h1];have Hnc:=zD hnc;have Hnp:=zD hnp;have Hpt:=zD h1;clear hnc hnp hnx h1 hN;subst hpl;subst hxl;go_enter Tryz.func27,Tryz.ntmps27;go_wp2_with (first
  | (rw[hW1])
  | (refine zT 26 (.tmp 2) (by rfl) (by rfl) w.heap.size (by rfl) [.slice L.a1 np L.c1,.slice L.a2 np L.c2,.slice L.a3 16 L.c3,.int .i64 1] 26 k1 _ Tryz.underlying26 rfl info_N ?_))
 refine HC.out.mono ?_;rintro e w2 ⟨rfl,hb2⟩;have k2:=k1.step hb2;have r2:=r1.step hb2;have B2:=zA B1 hb2;clear k1 r1 hW1 B1 hb2 HC;have cp:=k2.cell 3;simp only[zpC]at cp;go_wp2_with (first
  | (refine zT 26 (.tmp 2) (by rfl) (by rfl) w.heap.size (by rfl) [.slice L.a1 np L.c1,.slice L.a2 np L.c2,.slice L.a3 16 L.c3,.int .i64 1] 26 k2 _ Tryz.underlying26 rfl info_N ?_))
 refine(HCp.out _ B2).mono ?_;rintro e w4 ⟨a1,c1,a2,c2,a3,c3,rfl,own1,own2,own3,hb4⟩;have B4:=zA B2 hb4;have r4:=r2.step hb4;obtain⟨D,hD⟩:∃D,w2.heap.size=D:=⟨_,rfl⟩;have hwD:w.heap.size+1<D:=by rw[←hD];exact r2.lt
 rw[hD]at own1 own2 own3;unfold OwnP at own2;rw[Hnp.out]at own2;obtain⟨NB,hNB⟩:∃NB,w4.heap.size=NB:=⟨_,rfl⟩;have hb4s:=hb4.size;clear k2 r2 hb4 HCp B2 cp own3;have hDN:D≤NB:=by rw[←hD,←hNB];exact hb4s
 obtain⟨W5,hW5⟩:∃W5,w4.alloc (.cells #[.slice none 0 0,.slice none 0 0,.slice none 0 0,.int .i64 0] 26)=W5:=⟨_,rfl⟩;have hb5:Below w4.heap.size w4 W5:=by rw[←hW5];exact(zJ _ _).alloc (zF _) _
 have EN:Blk W5 NB [.slice none 0 0,.slice none 0 0,.slice none 0 0,.int .i64 0] 26:=by rw[←hW5,←hNB];exact Blk.new w4 _ _
 obtain⟨gC,rfl,hC1,hC2,hC3,hC4⟩:=zaQ own1 hl0;obtain⟨g2,rfl,hP1,hP2,hP3,hP4⟩:=zaQ own2 hl0;rw[hNB]at hC2 hP2;have hneCP:gC≠g2:=zcH own1 own2 (by decide);go_wp2_with (first
  | (rw[hW5,hNB])
  | (rw[hW5])
  | (refine yD 26 (.tmp 7) (.tmp 25) (by rfl) (by rfl) NB (by rfl) [.slice (some ⟨gC,0,none⟩) np c1,.slice (some ⟨g2,0,none⟩) np c2,.slice a3 16 c3,.int .i64 1] (by rfl) _ 26 EN info_N rfl (by simp[Value.oneCell']) ?_;intro wL EL gL sL))
 have hXN:KepX (fun k=>k=NB) w4 wL:=(KepX.below hb5).trans (KepX.row gL (fun b e=>.inl (zL e).symm));have BL:Below w.heap.size w wL:=hXN.toBelow B4 (fun k e=>by have e:k=NB:=e;omega);have rL:=r4.kepX hXN (show¬_=NB by omega);have own1L:=zaO own1 hXN (fun g e=>by have e:some gC=some g:=e;cases e;show¬_=NB;omega);have own2L:=zaO own2 hXN (fun g e=>by have e:some g2=some g:=e;cases e;show¬_=NB;omega);clear own1 own2 r4 B4 gL sL EN hb5 hXN hW5;refine(HCl.out _ BL).mono ?_;rintro e w6 ⟨bX,cX,rfl,ownX,hb6⟩;have B6:=zA BL hb6;have E6:=EL.step hb6;have r6:=rL.step hb6;have own16:=yO (B:=0) own1L hb6;have own26:=yO (B:=0) own2L hb6;have hzL:NB<wL.heap.size:=EL.lt;clear own1L own2L EL rL BL hb6 HCl;obtain⟨gX,rfl,hX1,hX2,hX3,hX4⟩:=zaQ ownX (by decide);have f2:=E6.cell 2;have f2f:=E6.free 2;have nB:=E6.set 2 (.slice (some ⟨gX,0,none⟩) 16 cX);have rB:=r6.other NB 2 (.slice (some ⟨gX,0,none⟩) 16 cX) (by omega);have hkA:KepX (fun b=>b=NB) w6 (w6.setCell ⟨NB,2,none⟩ (.slice (some ⟨gX,0,none⟩) 16 cX)):=KepX.row (zaR w6 NB 2 (.slice (some ⟨gX,0,none⟩) 16 cX)) (fun b e=>.inl (zL e).symm);simp only[sC0,sCs,lgz,lgs]at f2 nB;obtain⟨w7,hw7⟩:∃W,w6.setCell ⟨NB,2,none⟩ (.slice (some ⟨gX,0,none⟩) 16 cX)=W:=⟨_,rfl⟩;rw[hw7]at nB rB hkA;have B7:Below w.heap.size w w7:=hkA.toBelow B6 (fun k e=>by have e:k=NB:=e;omega);have own17:=zaO own16 hkA (fun g e=>by have e:some gC=some g:=e;cases e;show¬_=NB;omega);have own27:=zaO own26 hkA (fun g e=>by have e:some g2=some g:=e;cases e;show¬_=NB;omega);have ownX7:=zaO ownX hkA (fun g e=>by have e:some gX=some g:=e;cases e;show¬_=NB;omega);have hz7:=nB.lt;have hs7:w6.heap.size≤w7.heap.size:=hkA.size;have hz6:wL.heap.size≤w6.heap.size:=by omega
 have hXE:∀(X:Nat→Prop) W2,KepX X w7 W2→(∀k,k<w.heap.size→X k→E k)→NIs N L W2:=fun X W2 hk h=>HNE.out W2 (KepX.old B7 hk h)
 have HNI:∀W2,KepX (fun b=>E b∨b=w.heap.size+1∨b=NB) w7 W2→NIs ⟨N.comps,N.parts,l,1⟩ ⟨some ⟨gC,0,none⟩,c1,some ⟨g2,0,none⟩,c2,some ⟨gX,0,none⟩,cX,L.ys⟩ W2:=fun W2 hk=>
  {rc:=(Rd.of_owns own17).kepX hk (fun g o e=>by cases e;exact fun h=>h.elim (fun h=>by have:=HE.out _ h;omega) (fun h=>by omega))
   rp:=(Rd.of_owns own27).kepX hk (fun g o e=>by cases e;exact fun h=>h.elim (fun h=>by have:=HE.out _ h;omega) (fun h=>by omega))
   rx:=(Rd.of_owns ownX7).kepX hk (fun g o e=>by cases e;exact fun h=>h.elim (fun h=>by have:=HE.out _ h;omega) (fun h=>by omega))
   ly:=HN.out.ly
   ps:=fun j p y h1 h2=>(hXE _ W2 hk (fun k hl h=>h.elim (fun h=>h) (fun h=>by omega))).ps j p y h1 h2
   xs:=Hlx.out
   l1:=⟨by show N.comps.length≤_;rw[Hnc.out];exact hC3,hC4⟩
   l2:=⟨by show N.parts.length≤_;rw[Hnp.out];exact hP3,hP4⟩
   l3:=⟨by show l.length≤_;rw[Hl.out];exact hX3,hX4⟩}
 have HT:=HO.out ⟨some ⟨gC,0,none⟩,c1,some ⟨g2,0,none⟩,c2,some ⟨gX,0,none⟩,cX,L.ys⟩ w7 (fun b=>E b∨b=w.heap.size+1∨b=NB) B7 (fun k h=>h.elim (fun h=>by have:=HE.out _ h;have:=B7.size;omega) (fun h=>by omega)) HNI
  (by
    show w7.ownsRow w.heap.size 83 16 (.slice (some ⟨g2,0,none⟩) N.parts.length c2) N.parts.length (PCs N.parts L.ys);rw[Hnp.out];exact zbG own27 (by omega))
  (fun j p y h1 h2 W2 hk=>(hXE _ W2 hk (fun k hl h=>h.elim (fun h=>h.elim (fun h=>h) (fun h=>by omega)) (fun h=>by have h:some g2=some k:=h;have:=zL h;omega))).ps j p y h1 h2)
  (fun b hb=>by
    have hb:some g2=some b:=hb;have:=zL hb;exact fun h=>h.elim (fun h=>by have:=HE.out _ h;omega) (fun h=>by omega))
  (fun W2 hk=>⟨(Rd.of_owns own17).kepX hk (fun g o e=>by cases e;exact fun h=>h.elim (fun h=>h.elim (fun h=>by have:=HE.out _ h;omega) (fun h=>by omega)) (fun h=>by have h:some g2=some gC:=h;exact hneCP (zL h).symm)),
    (Rd.of_owns ownX7).kepX hk (fun g o e=>by cases e;exact fun h=>h.elim (fun h=>h.elim (fun h=>by have:=HE.out _ h;omega) (fun h=>by omega)) (fun h=>by have h:some g2=some gX:=h;have:=zL h;omega))⟩)
 unfold NV zaI at HT;simp only[Hnp.out,Hnc.out,Hl.out]at HT;have HTo:=zD HT;clear HT HO HNI hXE own16 own26 ownX own17 own27 ownX7 E6 r6 hkA;go_wp2_with (first
  | (rw[hw7])
  | (refine zT 26 (.tmp 7) (by rfl) (by rfl) NB (by rfl) [.slice (some ⟨gC,0,none⟩) np c1,.slice (some ⟨g2,0,none⟩) np c2,.slice (some ⟨gX,0,none⟩) 16 cX,.int .i64 1] 26 nB _ Tryz.underlying26 rfl info_N ?_))
 refine HTo.out.mono ?_;rintro e w8 ⟨L',rfl,hN',hk8⟩;have r8:=rB.kepX hk8 (fun e=>by have e:some g2=some (w.heap.size+1):=e;have:=zL e;omega);have B8:=hk8.toBelow B7 (fun b e=>by have e:some g2=some b:=e;have:=zL e;omega);have HN':=zD hN';clear hN' hk8 nB rB HTo;go_wp2_with (first
  | (refine yD 26 (.tmp 4) (.tmp 30) (by rfl) (by rfl) (w.heap.size+1) (by rfl) [.slice L'.a1 N2.comps.length L'.c1,.slice L'.a2 N2.parts.length L'.c2,.slice L'.a3 N2.ctxs.length L'.c3,.int .i64 N2.part] (by rfl) _ 26 r8 info_N rfl (by simp[Value.oneCell']) ?_;intro wR ER gR sR))
 have hL:=run_loadVar_mid wR _ 0 _ _ _ ER.cells Tryz.underlying26 rfl info_N;refine bodyPost_ret (v:=.tuple #[.agg #[.slice L'.a1 N2.comps.length L'.c1,.slice L'.a2 N2.parts.length L'.c2,.slice L'.a3 N2.ctxs.length L'.c3,.int .i64 N2.part],.int .i64 0]) ?_ rfl ?_
 ·exact yV (show Tryz.f27.results = #[.cell 4 26,.tmp 5]from rfl) (p:=⟨w.heap.size+1,0,none⟩) rfl rfl hL
 ·exact⟨L',rfl,fun W hW=>HN'.out W ((KepX.row gR (fun b e=>.inl (.inr (.inl (zL e).symm)))).trans (hW.mono (fun b _ h=>.inl h))),B8.trans (yC gR (by omega) B8.size)⟩
theorem zmL(n:Nat)(a:Option Addr)(c:Nat)(w:World):Calls Tryz.prog 75 #[.slice a n c,.slice none 0 0] w fun e w'=>e = .returned (.bool (decide (n=0)))∧Below w.heap.size w w':=by
 by_cases h:n=0
 ·subst h;exact zfD [] a none c 0 w (by simp) (Rd.nil _ _) (Rd.nil _ _)
 ·have hd:((n:Int)==0)=false:=by simp[h]
  rw[zK h];go_enter Tryz.func75,Tryz.ntmps75;go_wp2;go_returns;exact⟨rfl,by go_grown⟩
theorem strOfNums_ne{xs:List Int}(h:¬xs.length=0):(strOfNums xs).toList.isEmpty=false:=by
 rw[ByteArray.toList_eq,strOfNums_data,List.isEmpty_eq_false_iff];intro e;have:=yQ List.length e;rw[zbF]at this;exact h this
theorem zcG(m:S12.M)(p:Pl)(w:World)(hM:MIs m p w) :
 Calls Tryz.prog 77 #[MV m p,.agg #[.int .i64 0,.int .i64 0,.slice none 0 0,.slice none 0 0,.int .i64 0,.int .i64 0,.int .i64 0,.int .i64 0,.slice none 0 0]] w fun e w'=>e = .returned (.bool (S14.noM m))∧Below w.heap.size w w':=by
 have hrb:=hM.rdb;clear hM;obtain⟨bits,least,heads,bytes,at_,len,part,bit,ctrs⟩:=m;obtain⟨ah,ch,ab,cb,ac,cc⟩:=p;obtain⟨R,hR⟩:∃R,S14.noM ⟨bits,least,heads,bytes,at_,len,part,bit,ctrs⟩=R:=⟨_,rfl⟩;rw[hR];unfold S14.noM at hR;unfold MV zbR;simp only at hR hrb⊢;have HS:=zD fun W=>zmL ctrs.length ac cc W;obtain⟨W1,hW1⟩:∃W1,(w.alloc (.cells #[.int .i64 bits,.int .i64 least,.slice ah heads.length ch,.slice ab bytes.length cb,.int .i64 at_,.int .i64 len,.int .i64 part,.int .i64 bit,.slice ac ctrs.length cc] 77)).alloc (.cells #[.int .i64 0,.int .i64 0,.slice none 0 0,.slice none 0 0,.int .i64 0,.int .i64 0,.int .i64 0,.int .i64 0,.slice none 0 0] 77)=W1:=⟨_,rfl⟩;have B1:Below w.heap.size w W1:=by rw[←hW1];exact((zJ _ _).alloc (zF _) _).alloc (by simp) _
 have hcv:=conv12 bytes ab cb W1 (hrb.step B1);have hcz:=conv12 [] none 0 W1 (Rd.nil _ _);have hs0:strOfNums []=ByteArray.empty:=rfl;have hsn:=strOfNums_ne (xs:=bytes);have hsz:bytes.length=0→strOfNums bytes=ByteArray.empty:=fun h=>by rw[List.length_eq_zero_iff.1 h];rfl
 rw[hs0]at hcz;obtain⟨st,hst⟩:∃st,strOfNums bytes=st:=⟨_,rfl⟩;rw[hst]at hcv hsn hsz;simp only[List.length_nil]at hcz;obtain⟨nh,hnh⟩:∃n,heads.length=n:=⟨_,rfl⟩;obtain⟨nb,hnb⟩:∃n,bytes.length=n:=⟨_,rfl⟩;obtain⟨nc,hnc⟩:∃n,ctrs.length=n:=⟨_,rfl⟩;rw[hnh,hnb,hnc]at hR;rw[hnb]at hcv hsn hsz;rw[hnh,hnb,hnc]at hW1;rw[hnc]at HS;rw[hnh,hnb,hnc];have k1:Blk W1 w.heap.size [.int .i64 bits,.int .i64 least,.slice ah nh ch,.slice ab nb cb,.int .i64 at_,.int .i64 len,.int .i64 part,.int .i64 bit,.slice ac nc cc] 77:=by rw[←hW1];exact(Blk.new w _ _).alloc _
 have k2:Blk W1 (w.heap.size+1) [.int .i64 0,.int .i64 0,.slice none 0 0,.slice none 0 0,.int .i64 0,.int .i64 0,.int .i64 0,.int .i64 0,.slice none 0 0] 77:=by
  have h:=Blk.new (w.alloc (.cells #[.int .i64 bits,.int .i64 least,.slice ah nh ch,.slice ab nb cb,.int .i64 at_,.int .i64 len,.int .i64 part,.int .i64 bit,.slice ac nc cc] 77)) [.int .i64 0,.int .i64 0,.slice none 0 0,.slice none 0 0,.int .i64 0,.int .i64 0,.int .i64 0,.int .i64 0,.slice none 0 0] 77;rw[←hW1];simpa using h
 clear hst hnh hnb hnc hrb hs0;obtain⟨x0,x1,x2,x3,x4,x5,x6,x7,x8⟩:=k1.nine;obtain⟨y0,y1,y2,y3,y4,y5,y6,y7,y8⟩:=k2.nine;clear k1 k2;by_cases d0:bits=0
 ·subst d0;have e0:((0:Int)==0)=true:=rfl;by_cases d1:least=0
  ·subst d1;have e1:((0:Int)==0)=true:=rfl;by_cases d2:at_=0
   ·subst d2;have e2:((0:Int)==0)=true:=rfl;by_cases d3:len=0
    ·subst d3;have e3:((0:Int)==0)=true:=rfl;by_cases d4:part=0
     ·subst d4;have e4:((0:Int)==0)=true:=rfl;by_cases d5:bit=0
      ·subst d5;have e5:((0:Int)==0)=true:=rfl;by_cases d6:nh=0
       ·subst d6;by_cases d7:nb=0
        ·obtain rfl:=hsz d7;subst d7;have e7:(ByteArray.empty.toList==ByteArray.empty.toList)=true:=by simp
         have hfin:decide (nc=0)=R:=by rw[←hR];simp[*]
         clear hR;go_enter Tryz.func77,Tryz.ntmps77;go_wp2_with (rw[hW1]);go_loopw [5] (fun i wr=>i = .int .i64 (0:Int)∧wr=W1) (fun i _=>0)
         case atStart=>exact⟨rfl,rfl⟩
         case round=>
          obtain⟨rfl,rfl⟩:=hrel;go_wp2_with fail;refine(HS.out _).mono ?_;rintro e w5 ⟨rfl,hb5⟩;have B5:=zA B1 hb5;go_wp2_with fail;go_returns;exact⟨by first|rfl|exact yT hfin,B5⟩
        ·obtain rfl:R=false:=by rw[←hR];simp[d7]
         clear hR;have e7:=hsn d7;go_enter Tryz.func77,Tryz.ntmps77;go_wp2_with (rw[hW1]);go_wp2;go_returns;exact⟨by first|rfl|simp,by first|exact B1|(rw[hW1];exact B1)⟩
       ·obtain rfl:R=false:=by rw[←hR];simp[d6]
        clear hR;have e6:((nh:Int)==0)=false:=by simp[d6]
        go_enter Tryz.func77,Tryz.ntmps77;go_wp2_with (rw[hW1]);go_wp2;go_returns;exact⟨by first|rfl|simp,by first|exact B1|(rw[hW1];exact B1)⟩
      ·obtain rfl:R=false:=by rw[←hR];simp[d5]
       clear hR;have e5:(bit==0)=false:=by simp[d5]
       go_enter Tryz.func77,Tryz.ntmps77;go_wp2_with (rw[hW1]);go_wp2;go_returns;exact⟨by first|rfl|simp,by first|exact B1|(rw[hW1];exact B1)⟩
     ·obtain rfl:R=false:=by rw[←hR];simp[d4]
      clear hR;have e4:(part==0)=false:=by simp[d4]
      go_enter Tryz.func77,Tryz.ntmps77;go_wp2_with (rw[hW1]);go_wp2;go_returns;exact⟨by first|rfl|simp,by first|exact B1|(rw[hW1];exact B1)⟩
    ·obtain rfl:R=false:=by rw[←hR];simp[d3]
     clear hR;have e3:(len==0)=false:=by simp[d3]
     go_enter Tryz.func77,Tryz.ntmps77;go_wp2_with (rw[hW1]);go_wp2;go_returns;exact⟨by first|rfl|simp,by first|exact B1|(rw[hW1];exact B1)⟩
   ·obtain rfl:R=false:=by rw[←hR];simp[d2]
    clear hR;have e2:(at_==0)=false:=by simp[d2]
    go_enter Tryz.func77,Tryz.ntmps77;go_wp2_with (rw[hW1]);go_wp2;go_returns;exact⟨by first|rfl|simp,by first|exact B1|(rw[hW1];exact B1)⟩
  ·obtain rfl:R=false:=by rw[←hR];simp[d1]
   clear hR;have e1:(least==0)=false:=by simp[d1]
   go_enter Tryz.func77,Tryz.ntmps77;go_wp2_with (rw[hW1]);go_wp2;go_returns;exact⟨by first|rfl|simp,by first|exact B1|(rw[hW1];exact B1)⟩
 ·obtain rfl:R=false:=by rw[←hR];simp[d0]
  clear hR;have e0:(bits==0)=false:=by simp[d0]
  go_enter Tryz.func77,Tryz.ntmps77;go_wp2_with (rw[hW1]);go_wp2;go_returns;exact⟨by first|rfl|simp,by first|exact B1|(rw[hW1];exact B1)⟩
theorem zfE(xs:List (Int×Int))(a:Option Addr)(c n:Nat)(limit:Int)(w:World)(hl:xs.length≤9223372036854775807)(hrd:Rd w a (Cts xs)) :
 Calls Tryz.prog 80 #[.slice a xs.length c,.int .i64 (n:Int),.int .i64 limit] w fun e w'=>e = .returned (.bool (S14.okCtrs xs n limit))∧Below w.heap.size w w':=by
 have HC:=zD fun(x:Int×Int) W=>zfV x.1 x.2 limit W;have hat:∀k,k<xs.length→∃x:Int×Int,xs[k]? = some x∧(Cts xs)[k*2]? = some (.int .i64 x.1)∧(Cts xs)[k*2+1]? = some (.int .i64 x.2):=fun k hk=>⟨xs[k]'hk,zG hk,zfN hk⟩;have Hat:=zD hat;have Hne:=zD (fun(e:Cts xs = [])=>show xs.length=0 by have:=yQ List.length e;rw[zbQ]at this;simp at this;omega);obtain⟨R,hR⟩:∃R,S14.okCtrs xs n limit=R:=⟨_,rfl⟩;rw[hR];unfold S14.okCtrs at hR;have HR:=zD hR;clear hR hat;go_enter Tryz.func80,Tryz.ntmps80;go_wp2_with fail;go_loopw [7] (fun i wr=>∃k:Nat,k≤xs.length∧i = .int .i64 (k:Int)∧Below w.heap.size w wr∧Hid ((xs.take k).any (fun c=>decide (S08.check c.1 c.2 limit≠0))=false)) (fun i _=>xs.length-(intOf i).toNat)
 case atStart=>exact⟨0,by omega,rfl,by go_grown,zD (by simp)⟩
 case round=>
  obtain⟨k,hk,rfl,hB,hany⟩:=hrel;by_cases hlt:k<xs.length
  ·have hl4:(k:Int)<(xs.length:Int):=by omega
   have hne:Cts xs≠ []:=fun e=>by have:=Hne.out e;omega
   obtain⟨x,hx,hx0,hx1⟩:=Hat.out k hlt;obtain⟨ba,oa,rfl,hra⟩:=(hrd.step hB) hne;have c1:=hra (k*2) _ hx0;have c2:=hra (k*2+1) _ hx1;rw[←Nat.add_assoc]at c2;have HX:=zD hx;clear hra hx0 hx1 hne hx;go_wp2_with fail;refine(HC.out x _).mono ?_;rintro e w5 ⟨rfl,hb5⟩;have hB5:=zA hB hb5;obtain⟨E,hE⟩:∃E,S08.check x.1 x.2 limit=E:=⟨_,rfl⟩;rw[hE];have HE:=zD hE;clear hE;by_cases h0:E=0
   ·subst h0
    have hnx:Hid ((xs.take (k+1)).any (fun c=>decide (S08.check c.1 c.2 limit≠0))=false):=zD (by
     rw[List.take_add_one,HX.out,List.any_append,hany.out];simp[HE.out])
    go_wp2;go_roundw
    case rel=>exact⟨k+1,by omega,by go_num,hB5,hnx⟩
    case measure=>simp[intOf];omega
   ·have e0:(E==0)=false:=by simp[h0]
    have hf:R=false:=by
     rw[←HR.out];have:xs.any (fun c=>decide (S08.check c.1 c.2 limit≠0))=true:=List.any_eq_true.2 ⟨x,yL HX.out,by rw[HE.out];exact zO h0⟩;rw[this];simp
    subst hf;go_wp2;go_returns;exact⟨rfl,hB5⟩
  ·obtain rfl:k=xs.length:=by omega
   have hf:(((xs.length:Nat):Int)==(n:Int))=R:=by
    have h:=hany.out;rw[zcD]at h;have e:(((xs.length:Nat):Int)==(n:Int))=decide (xs.length=n):=by
     rw[show(((xs.length:Nat):Int)==(n:Int))=decide (((xs.length:Nat):Int)=(n:Int))from rfl,decide_eq_decide];omega
    rw[←HR.out,h,e,Bool.not_false,Bool.and_true]
   go_wp2;go_returns;exact⟨by first|rfl|exact yT hf,hB⟩
def cK:S14.C:=⟨0,0,3072,0,0,0⟩
def cD:S14.C:=⟨1,0,255,0,0,0⟩
def cA:S14.C:=⟨4,0,128,0,0,1⟩
theorem zbX(w:World):Calls Tryz.prog 41 #[] w fun e w'=>∃g,e = .returned (.slice (some ⟨g,0,none⟩) 1 1)∧w'.ownsRow w.heap.size 54 6 (.slice (some ⟨g,0,none⟩) 1 1) 1 (zdB [cK])∧Below w.heap.size w w':=by
 go_enter Tryz.func41,Tryz.ntmps41;go_wp2;go_returns;exact⟨w.heap.size,rfl,⟨rfl,.inr ⟨w.heap.size,1,_,rfl,zF _,heap_alloc_new w _,zF _,by decide,rfl,rfl⟩⟩,(zJ _ _).alloc (zF _) _⟩
