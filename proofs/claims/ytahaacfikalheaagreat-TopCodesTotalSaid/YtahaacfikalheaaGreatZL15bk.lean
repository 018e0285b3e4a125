/- A part of the proof of L15. No condition. -/
import Derived.Test.YtahaacfikalheaaGreatZL15bb
import Derived.Test.YtahaacfikalheaaGreatZL15bd
import Derived.Test.YtahaacfikalheaaGreatZL15bf
import Derived.Test.YtahaacfikalheaaGreatZL15bh
set_option linter.all false
set_option maxRecDepth 100000
set_option maxHeartbeats 20000000
namespace Go.Proofs.YtahaacfikalheaaGreat
open Go.RowKit
structure S14.P where
 ctrs:List (Int×Int)
 sb:Int
 sd:List Int
 slot:Int
 m:S12.M
 mi:Int
 mw:List (List Int)
 ac:List Int
structure Lay where
 a1:Option Addr
 c1:Nat
 a2:Option Addr
 c2:Nat
 pl:Pl
 a3:Option Addr
 c3:Nat
 a4:Option Addr
 c4:Nat
def MixC(p:S14.P)(y:Lay):List Value:=[.int .i64 p.mi,.slice y.a3 p.mw.length y.c3]
def ApmC(p:S14.P)(y:Lay):List Value:=[.slice y.a4 p.ac.length y.c4]
def yL(p:S14.P)(y:Lay):List Value:=
 [.slice y.a1 p.ctrs.length y.c1,.int .i64 p.sb,.slice y.a2 p.sd.length y.c2,.int .i64 p.slot,.int .i64 p.m.bits,.int .i64 p.m.least,.slice y.pl.ah p.m.heads.length y.pl.ch,.slice y.pl.ab p.m.bytes.length y.pl.cb,.int .i64 p.m.at_,.int .i64 p.m.len,.int .i64 p.m.part,.int .i64 p.m.bit,.slice y.pl.ac p.m.ctrs.length y.pl.cc,
  .int .i64 p.mi,.slice y.a3 p.mw.length y.c3,.slice y.a4 p.ac.length y.c4]
def PV(p:S14.P)(y:Lay):Value:=.agg (yL p y).toArray
structure PIs(p:S14.P)(y:Lay)(w:World):Prop where
 rc:Rd w y.a1 (Cts p.ctrs)
 tab:Tab p.sd y.a2 y.c2 w
 mch:MIs p.m y.pl w
 mix:MixIs p.mi p.mw (.agg (MixC p y).toArray) w
 apm:MapIs p.ac (.agg (ApmC p y).toArray) w
theorem PIs.step{p:S14.P}{y:Lay}{w w':World}(h:PIs p y w)(hb:Below w.heap.size w w'):PIs p y w':=
 ⟨h.rc.step hb,h.tab.step hb,h.mch.step hb,h.mix.step hb,h.apm.step hb⟩
theorem zbE(p:S14.P)(y:Lay):(yL p y).length=16:=rfl
theorem zaM(p:S14.P)(y:Lay):∀v∈yL p y,v.oneCell'=true:=by
 intro v hv;simp only[yL,List.mem_cons,zdJ,or_false]at hv;rcases hv with rfl|rfl|rfl|rfl|rfl|rfl|rfl|rfl|rfl|rfl|rfl|rfl|rfl|rfl|rfl|rfl<;>rfl
def S14.P0:S14.P:=⟨[],0,[],0,⟨0,0,[],[],0,0,0,0,[]⟩,0,[],[]⟩
def zdO:Lay:=⟨none,0,none,0,⟨none,0,none,0,none,0⟩,none,0,none,0⟩
theorem PIs.zero(w:World):PIs S14.P0 zdO w:=
 ⟨Rd.nil _ _,⟨(fun x hx=>(by cases hx)),zD _,Rd.nil _ _⟩,⟨Rd.nil _ _,Rd.nil _ _,Rd.nil _ _,(fun x hx=>(by cases hx)),zD _,by decide,by decide,by decide⟩,
   ⟨[],none,0,rfl,rfl,zD _,by decide,Rd.nil _ _,(fun r hr=>(by cases hr))⟩,⟨none,0,rfl,zD _,by decide,Rd.nil _ _⟩⟩
structure S14.N where
 comps:List S14.C
 parts:List S14.P
 ctxs:List Nat
 part:Int
structure NLay where
 a1:Option Addr
 c1:Nat
 a2:Option Addr
 c2:Nat
 a3:Option Addr
 c3:Nat
 ys:List Lay
def zhJ(l:List Nat):List Value:=l.map fun(x:Nat)=>.int .u32 (x:Int)
theorem zcH(l:List Nat):(zhJ l).length=l.length:=by simp[zhJ]
def PCs:List S14.P→List Lay→List Value
 | p::ps,y::ys=>yL p y++PCs ps ys
 | _,_=>[]
def zdN(N:S14.N)(L:NLay):List Value:=[.slice L.a1 N.comps.length L.c1,.slice L.a2 N.parts.length L.c2,.slice L.a3 N.ctxs.length L.c3,.int .i64 N.part]
def NV(N:S14.N)(L:NLay):Value:=.agg (zdN N L).toArray
structure NIs(N:S14.N)(L:NLay)(w:World):Prop where
 rc:Rd w L.a1 (zhK N.comps)
 rp:Rd w L.a2 (PCs N.parts L.ys)
 rx:Rd w L.a3 (zhJ N.ctxs)
 ly:L.ys.length=N.parts.length
 ps:∀(i:Nat) (p:S14.P) (y:Lay),N.parts[i]? = some p→L.ys[i]? = some y→PIs p y w
 xs:∀x∈N.ctxs,x<4294967296
 l1:N.comps.length≤L.c1∧L.c1≤9223372036854775807
 l2:N.parts.length≤L.c2∧L.c2≤9223372036854775807
 l3:N.ctxs.length≤L.c3∧L.c3≤9223372036854775807
theorem NIs.step{N:S14.N}{L:NLay}{w w':World}(h:NIs N L w)(hb:Below w.heap.size w w'):NIs N L w':=
 ⟨h.rc.step hb,h.rp.step hb,h.rx.step hb,h.ly,fun i p y h1 h2=>(h.ps i p y h1 h2).step hb,h.xs,h.l1,h.l2,h.l3⟩
theorem zgQ:∀(ps:List S14.P) (ys:List Lay),ys.length=ps.length→(PCs ps ys).length=16*ps.length
 | [],[],_=>rfl
 | p::ps,y::ys,h=>by
   have:=zgQ ps ys (by simpa using h);simp only[PCs,yN,zbE,yO,this];omega
theorem PCs_at:∀(ps:List S14.P) (ys:List Lay) {i j:Nat} {p:S14.P} {y:Lay},ps[i]? = some p→ys[i]? = some y→j<16→(PCs ps ys)[16*i+j]? = (yL p y)[j]?
 | [],_,i,j,p,y,h,_,_=>by simp at h
 | _::_,[],i,j,p,y,_,h,_=>by simp at h
 | q::ps,z::ys,0,j,p,y,h1,h2,hj=>by
   obtain rfl:q=p:=by simpa using h1
   obtain rfl:z=y:=by simpa using h2
   show(yL q z++PCs ps ys)[16*0+j]? = _;rw[Nat.mul_zero,yK,zaN (by rw[zbE];exact hj)]
 | q::ps,z::ys,i+1,j,p,y,h1,h2,hj=>by
   show(yL q z++PCs ps ys)[16*(i+1)+j]? = _;rw[yQ (by rw[zbE];omega),zbE,show 16*(i+1)+j-16=16*i+j by omega];exact PCs_at ps ys (by simpa using h1) (by simpa using h2) hj
theorem NIs.part_at{N:S14.N}{L:NLay}{w:World}(h:NIs N L w){k:Nat}(hk:k<N.parts.length):∃b o p y,L.a2=some ⟨b,o,none⟩∧N.parts[k]? = some p∧L.ys[k]? = some y∧w.rangeAt b (o+k*16) (yL p y)∧PIs p y w:=by
 obtain⟨p,hp⟩:∃p,N.parts[k]? = some p:=⟨_,zE hk⟩;obtain⟨y,hy⟩:∃y,L.ys[k]? = some y:=⟨_,zE (by rw[h.ly];exact hk)⟩;obtain⟨b,o,e,hcs⟩:=h.rp (fun e=>by have h1:=yS List.length e;rw[zgQ _ _ h.ly]at h1;simp at h1;omega);refine⟨b,o,p,y,e,hp,hy,fun j v hv=> ?_,h.ps k p y hp hy⟩;have hj:j<16:=by have:=(List.getElem?_eq_some_iff.1 hv).1;rwa[zbE]at this
 have:=hcs (16*k+j) v ((PCs_at _ _ hp hy hj).trans hv);rw[show o+(16*k+j)=o+k*16+j by omega]at this;exact this
theorem NIs.comp_at{N:S14.N}{L:NLay}{w:World}(h:NIs N L w){k:Nat}{c:S14.C}(hc:N.comps[k]? = some c):∃b o,L.a1=some ⟨b,o,none⟩∧Elem14 w b (o+k*6) c:=by
 have hk:=(List.getElem?_eq_some_iff.1 hc).1;obtain⟨b,o,e,hcs⟩:=h.rc (fun e=>by have h1:=yS List.length e;rw[zbB]at h1;simp at h1;omega);exact⟨b,o,e,zsN hcs hc⟩
theorem NIs.ctx_at{N:S14.N}{L:NLay}{w:World}(h:NIs N L w){k:Nat}(hk:k<N.ctxs.length):∃b o,L.a3=some ⟨b,o,none⟩∧w.cell? ⟨b,o+k,none⟩=some (.int .u32 (N.ctxs.getD k 0:Nat))∧N.ctxs.getD k 0<4294967296:=by
 obtain⟨b,o,e,hcs⟩:=h.rx.at (i:=k) (by rw[zcH];exact hk);refine⟨b,o,e,?_,?_⟩
 ·rw[hcs k (by rw[zcH];exact hk),zI,zE hk];simp[zhJ]
 ·rw[zI,zE hk];exact h.xs _ (zbC hk)
def zP:Array Value:=(yL S14.P0 zdO).toArray
theorem zeroP_run(w:World):(zeroValue 78).run Tryz.prog w = .ok (.agg zP) w:=by
 have h:(Tryz.prog.info? 78).bind (·.zero)=some (.agg zP):=by kernel_rfl
 obtain⟨i,hi⟩:∃i,Tryz.prog.info? 78=some i:=by
  cases hh:Tryz.prog.info? 78 with
  | none=>rw[hh]at h;cases h
  | some i=>exact⟨i,rfl⟩
 rw[hi]at h;have hz:i.zero=some (.agg zP):=h;unfold zeroValue typeInfo;simp[go_sem,hi,hz]
theorem zcS(w:World):(Instr.alloc 78 true (.tuple #[])).run Tryz.prog w = .ok (.pointer (some ⟨w.heap.size,0,none⟩)) (w.alloc (.cells zP 78)):=by
 have hz:=zeroP_run w;unfold Instr.alloc;simp[hz,go_sem]
theorem info_P:(Tryz.prog.info? 78).map (·.size)=some 16:=by kernel_rfl
theorem zeH(w:World):Blk (w.alloc (.cells zP 78)) w.heap.size (yL S14.P0 zdO) 78:=Blk.new w _ _
attribute [irreducible] zP
theorem zbH{P:Program}{fn:Func}{tmps:Array Value}{a:Nat}{t:TypeId}{p:Addr}{v:Value}{w:World}(hr:fn.results = #[.cell a t])(hp:tmps.getD a undef = .pointer (some p))
 (hL:(loadVar t p).run P w = .ok v w):(results fn tmps).run P w = .ok v w:=by
 have hp2:(asAddr (.pointer (some p))).run P w = .ok p w:=by simp[asAddr,go_sem]
 have hp':tmps[a]?.getD undef = .pointer (some p):=by simpa using hp
 unfold results;rw[hr];simp[hp',hp2,hL]
theorem zaI{P:Program}{fn:Func}{tmps:Array Value}{a b:Nat}{t:TypeId}{p:Addr}{v u:Value}{w:World}(hr:fn.results = #[.cell a t,.tmp b])(hp:tmps.getD a undef = .pointer (some p))(hu:tmps.getD b undef=u)
 (hL:(loadVar t p).run P w = .ok v w):(results fn tmps).run P w = .ok (.tuple #[v,u]) w:=by
 have hp2:(asAddr (.pointer (some p))).run P w = .ok p w:=by simp[asAddr,go_sem]
 have hp':tmps[a]?.getD undef = .pointer (some p):=by simpa using hp
 have hu':tmps[b]?.getD undef=u:=by simpa using hu
 unfold results;rw[hr];simp[hp',hu',hp2,hL]
theorem Cs14_one:∀(l:List S14.C),∀u∈zhK l,u.oneCell'=true:=fun l u hu=>by
 unfold zhK at hu;obtain⟨x,hx,hm⟩:=List.mem_flatten.1 hu;obtain⟨c,_,rfl⟩:=List.mem_map.1 hx;simp only[zZ,List.mem_cons,zdJ,or_false]at hm;rcases hm with rfl|rfl|rfl|rfl|rfl|rfl<;>rfl
theorem PCs_one:∀(ps:List S14.P) (ys:List Lay),∀u∈PCs ps ys,u.oneCell'=true
 | [],_,u,hu=>by simp[PCs]at hu
 | _::_,[],u,hu=>by simp[PCs]at hu
 | p::ps,y::ys,u,hu=>by
   rcases List.mem_append.1 (show u∈yL p y++PCs ps ys from hu)with h|h
   ·exact zaM p y u h
   ·exact PCs_one ps ys u h
theorem zuC(l:List Nat):∀u∈zhJ l,u.oneCell'=true:=fun u hu=>by
 obtain⟨x,_,rfl⟩:=List.mem_map.1 hu;rfl
theorem Cts14_one(l:List (Int×Int)):∀u∈Cts l,u.oneCell'=true:=fun u hu=>by
 unfold Cts at hu;obtain⟨x,_,hm⟩:=List.mem_flatMap.1 hu;simp only[List.mem_cons,zdJ,or_false]at hm;rcases hm with rfl|rfl<;>rfl
theorem elems_comps:Elems Tryz.prog 22 37 6 48 [.int .i64 0,.int .i64 0,.int .i64 0,.int .i64 0,.int .i64 0,.int .i64 0]:=⟨Tryz.underlying22,by kernel_rfl,rfl,by decide⟩
theorem zqD:Elems Tryz.prog 38 78 16 240 (yL S14.P0 zdO):=⟨Tryz.underlying38,by kernel_rfl,rfl,by decide⟩
theorem elems_u32:Elems Tryz.prog 35 44 1 4 [.int .u32 0]:=⟨Tryz.underlying35,by kernel_rfl,rfl,by decide⟩
theorem elems_ctrs14:Elems Tryz.prog 66 179 2 16 [.int .i64 0,.int .i64 0]:=⟨Tryz.underlying66,by kernel_rfl,rfl,by decide⟩
theorem znM(vals:List Value)(n:Nat)(hl:vals.length=n*6)(hone:∀u∈vals,u.oneCell'=true)(g o:Nat)(cap:Nat)(w:World)(h1:1≤n)(h2:n≤100000)(hrd:Rd w (some ⟨g,o,none⟩) vals) :
 Calls Tryz.prog 25 #[.slice (some ⟨g,o,none⟩) n cap] w fun e w'=>∃b cap',e = .returned (.slice b n cap')∧w'.ownsRow w.heap.size 37 6 (.slice b n cap') n vals∧Below w.heap.size w w':=by
 have qT:∀(w:World) (a:Option Addr) (n c n' c':Nat),(binOp .eql 22 (.slice a n c) (.slice none n' c')).run Tryz.prog w = .ok (.bool a.isNone) w:=fun w a n c n' c'=>Lib.run_eql_slice_nil w _ _ a n c n' c' Tryz.underlying22;have hrd':=zB (hrd.step ((zF w.heap.size w).alloc (zD _) (Obj.cells #[] 37)));have Hl:=zB hl;clear hl;go_enter Tryz.func25,Tryz.ntmps25;go_wp2_with (at_builtin;refine zaL _ _ 22 37 6 48 _ w.heap.size elems_comps rfl rfl _ 0 [] rfl (World.ownsRow_made w #[] 0 (zD _) (by decide) rfl) (some ⟨g,o,none⟩) n cap vals rfl Hl.out hrd'.out hone (by unfold maxLen;omega) (by omega) (by simp) ?_;intro a2 cap2 w2 hown2 hgrow2);have hB2:Below w.heap.size w w2:=Below.grown (by go_grown) hgrow2 (by simp) (fun k e=>by cases e;exact zD _);simp only[yK,lna]at hown2;have hc:=zB hown2;clear hgrow2 hown2;go_wp2;go_returns;exact⟨a2,cap2,by simp,hc.out,hB2⟩
theorem cloneParts14(vals:List Value)(n:Nat)(hl:vals.length=n*16)(hone:∀u∈vals,u.oneCell'=true)(g o:Nat)(cap:Nat)(w:World)(h1:1≤n)(h2:n≤100000)(hrd:Rd w (some ⟨g,o,none⟩) vals) :
 Calls Tryz.prog 57 #[.slice (some ⟨g,o,none⟩) n cap] w fun e w'=>∃b cap',e = .returned (.slice b n cap')∧w'.ownsRow w.heap.size 78 16 (.slice b n cap') n vals∧Below w.heap.size w w':=by
 have qT:∀(w:World) (a:Option Addr) (n c n' c':Nat),(binOp .eql 38 (.slice a n c) (.slice none n' c')).run Tryz.prog w = .ok (.bool a.isNone) w:=fun w a n c n' c'=>Lib.run_eql_slice_nil w _ _ a n c n' c' Tryz.underlying38;have hrd':=zB (hrd.step ((zF w.heap.size w).alloc (zD _) (Obj.cells #[] 78)));have Hl:=zB hl;clear hl;go_enter Tryz.func57,Tryz.ntmps57;go_wp2_with (at_builtin;refine zaL _ _ 38 78 16 240 _ w.heap.size zqD rfl rfl _ 0 [] rfl (World.ownsRow_made w #[] 0 (zD _) (by decide) rfl) (some ⟨g,o,none⟩) n cap vals rfl Hl.out hrd'.out hone (by unfold maxLen;omega) (by omega) (by simp) ?_;intro a2 cap2 w2 hown2 hgrow2);have hB2:Below w.heap.size w w2:=Below.grown (by go_grown) hgrow2 (by simp) (fun k e=>by cases e;exact zD _);simp only[yK,lna]at hown2;have hc:=zB hown2;clear hgrow2 hown2;go_wp2;go_returns;exact⟨a2,cap2,by simp,hc.out,hB2⟩
theorem zqK(vals:List Value)(n:Nat)(hl:vals.length=n*1)(hone:∀u∈vals,u.oneCell'=true)(g o:Nat)(cap:Nat)(w:World)(h1:1≤n)(h2:n≤100000)(hrd:Rd w (some ⟨g,o,none⟩) vals) :
 Calls Tryz.prog 48 #[.slice (some ⟨g,o,none⟩) n cap] w fun e w'=>∃b cap',e = .returned (.slice b n cap')∧w'.ownsRow w.heap.size 44 1 (.slice b n cap') n vals∧Below w.heap.size w w':=by
 have qT:∀(w:World) (a:Option Addr) (n c n' c':Nat),(binOp .eql 35 (.slice a n c) (.slice none n' c')).run Tryz.prog w = .ok (.bool a.isNone) w:=fun w a n c n' c'=>Lib.run_eql_slice_nil w _ _ a n c n' c' Tryz.underlying35;have hrd':=zB (hrd.step ((zF w.heap.size w).alloc (zD _) (Obj.cells #[] 44)));have Hl:=zB hl;clear hl;go_enter Tryz.func48,Tryz.ntmps48;go_wp2_with (at_builtin;refine zaL _ _ 35 44 1 4 _ w.heap.size elems_u32 rfl rfl _ 0 [] rfl (World.ownsRow_made w #[] 0 (zD _) (by decide) rfl) (some ⟨g,o,none⟩) n cap vals rfl Hl.out hrd'.out hone (by unfold maxLen;omega) (by omega) (by simp) ?_;intro a2 cap2 w2 hown2 hgrow2);have hB2:Below w.heap.size w w2:=Below.grown (by go_grown) hgrow2 (by simp) (fun k e=>by cases e;exact zD _);simp only[yK,lna]at hown2;have hc:=zB hown2;clear hgrow2 hown2;go_wp2;go_returns;exact⟨a2,cap2,by simp,hc.out,hB2⟩
theorem cloneCtrs14(vals:List Value)(n:Nat)(hl:vals.length=n*2)(hone:∀u∈vals,u.oneCell'=true)(g o:Nat)(cap:Nat)(w:World)(h1:1≤n)(h2:n≤100000)(hrd:Rd w (some ⟨g,o,none⟩) vals) :
 Calls Tryz.prog 127 #[.slice (some ⟨g,o,none⟩) n cap] w fun e w'=>∃b cap',e = .returned (.slice b n cap')∧w'.ownsRow w.heap.size 179 2 (.slice b n cap') n vals∧Below w.heap.size w w':=by
 have qT:∀(w:World) (a:Option Addr) (n c n' c':Nat),(binOp .eql 66 (.slice a n c) (.slice none n' c')).run Tryz.prog w = .ok (.bool a.isNone) w:=fun w a n c n' c'=>Lib.run_eql_slice_nil w _ _ a n c n' c' Tryz.underlying66;have hrd':=zB (hrd.step ((zF w.heap.size w).alloc (zD _) (Obj.cells #[] 179)));have Hl:=zB hl;clear hl;go_enter Tryz.func127,Tryz.ntmps127;go_wp2_with (at_builtin;refine zaL _ _ 66 179 2 16 _ w.heap.size elems_ctrs14 rfl rfl _ 0 [] rfl (World.ownsRow_made w #[] 0 (zD _) (by decide) rfl) (some ⟨g,o,none⟩) n cap vals rfl Hl.out hrd'.out hone (by unfold maxLen;omega) (by omega) (by simp) ?_;intro a2 cap2 w2 hown2 hgrow2);have hB2:Below w.heap.size w w2:=Below.grown (by go_grown) hgrow2 (by simp) (fun k e=>by cases e;exact zD _);simp only[yK,lna]at hown2;have hc:=zB hown2;clear hgrow2 hown2;go_wp2;go_returns;exact⟨a2,cap2,by simp,hc.out,hB2⟩
theorem zrK(F:FuncId)(hF:∀args w,(callFunc F args).run Tryz.prog w = .ok (.enter F args) w)(c:Value)(test:Int×Int→Bool)(w:World)(xs:List (Int×Int))
 (hv:∀x W,Below w.heap.size w W→Calls Tryz.prog F #[.agg #[.int .i64 x.1,.int .i64 x.2],c] W fun e w'=>e = .returned (.bool (test x))∧Below W.heap.size W w') (a:Option Addr) (cap:Nat) (hlen:xs.length≤100000) (hrd:Rd w a (Cts xs)) :
 Calls Tryz.prog 136 #[.slice a xs.length cap,.func (.func F) #[] #[c]] w fun e w'=>∃r:Int,e = .returned (.int .i64 r)∧decide (0≤r)=xs.any test∧Below w.heap.size w w':=by
 have Hv:=zB hv;clear hv;go_enter Tryz.func136,Tryz.ntmps136;go_wp2;go_loopw [8] (fun i wr=>∃k:Nat,k≤xs.length∧i = .int .i64 k∧(xs.take k).any test=false∧Below w.heap.size w wr) (fun i _=>xs.length-(intOf i).toNat)
 case atStart=>exact⟨0,by omega,rfl,rfl,zF _ _⟩
 case round=>
  obtain⟨k,hk,rfl,hno,hB⟩:=hrel;have zr:w.heap.size≤wr.heap.size:=hB.size;have Hno:=zB hno;clear hno;by_cases hlt:k<xs.length
  ·obtain⟨g,o,rfl,hcs⟩:=(hrd.step hB) (fun e=>by have:=yS List.length e;rw[zbY]at this;simp at this;omega);have hc0:=hcs (k*2) _ (zjB hlt).1;have hc1:=hcs (k*2+1) _ (zjB hlt).2;have HT:=zB (Hv.out xs[k] wr hB);have Hs:=zB (zeI test xs k hlt);have Ha:=zB (ziG test xs k hlt);obtain⟨x,hx⟩:∃x,xs[k]=x:=⟨_,rfl⟩;rw[hx]at hc0 hc1 HT Hs Ha;clear hcs hx;obtain⟨x0,x1⟩:=x;simp only at hc0 hc1 HT;rw[←zbR]at hc1;cases ht:test (x0,x1)with
   | true=>
     have Hany:=zB (Ha.out ht);rw[ht]at HT;clear ht;go_wp2_with fail;refine HT.out.mono ?_;rintro e w1 ⟨rfl,hb1⟩;have hB1:=zA hB hb1;go_wp2;go_returns;exact⟨_,rfl,by rw[Hany.out];simp,hB1⟩
   | false=>
     have Hn:=zB (show(xs.take (k+1)).any test=false by rw[Hs.out,Hno.out,ht];rfl);rw[ht]at HT;clear ht;go_wp2_with fail;refine HT.out.mono ?_;rintro e w1 ⟨rfl,hb1⟩;have hB1:=zA hB hb1;go_wp2;go_roundw
     case rel=>exact⟨k+1,by omega,by go_num,Hn.out,hB1⟩
     case measure=>simp[intOf];omega
  ·obtain rfl:k=xs.length:=by omega
   go_wp2;go_returns;refine⟨_,rfl,?_,hB⟩;have:=Hno.out;rw[zdT]at this;rw[this];rfl
theorem zmE(F:FuncId)(hF:∀args w,(callFunc F args).run Tryz.prog w = .ok (.enter F args) w)(c:Value)(test:Int×Int→Bool)(w:World)(xs:List (Int×Int))
 (hv:∀x W,Below w.heap.size w W→Calls Tryz.prog F #[.agg #[.int .i64 x.1,.int .i64 x.2],c] W fun e w'=>e = .returned (.bool (test x))∧Below W.heap.size W w') (a:Option Addr) (cap:Nat) (hlen:xs.length≤100000) (hrd:Rd w a (Cts xs)) :
 Calls Tryz.prog 130 #[.slice a xs.length cap,.func (.func F) #[] #[c]] w fun e w'=>e = .returned (.bool (xs.any test))∧Below w.heap.size w w':=by
 have HI:=zB (zrK F hF c test w xs hv a cap hlen hrd);clear hv;obtain⟨b,hb⟩:∃b,xs.any test=b:=⟨_,rfl⟩;rw[hb]at HI⊢;clear hb;go_enter Tryz.func130,Tryz.ntmps130;go_wp2_with fail;refine HI.out.mono ?_;rintro e w1 ⟨r,rfl,hr,hb1⟩;go_wp2;go_returns;exact⟨by first|rfl|exact zaP hr,hb1⟩
def S14.badC(limit:Int)(c:Int×Int):Bool:=decide (S08.check c.1 c.2 limit≠0)
theorem badC14_any(limit:Int)(x:Int×Int)(B:Nat)(w:World)(hB:w.cell? ⟨B,0,none⟩=some (.int .i64 limit)) :
 Calls Tryz.prog 131 #[.agg #[.int .i64 x.1,.int .i64 x.2],.pointer (some ⟨B,0,none⟩)] w fun e w'=>e = .returned (.bool (S14.badC limit x))∧Below w.heap.size w w':=by
 have HC:=zB fun W=>zeV x.1 x.2 limit W;have hlB:=zL hB;unfold S14.badC;obtain⟨x0,x1⟩:=x;simp only at HC hlB⊢;obtain⟨r,hr⟩:∃r,S08.check x0 x1 limit=r:=⟨_,rfl⟩;rw[hr]at HC⊢;clear hr;go_enter Tryz.func131,Tryz.ntmps131;go_wp2_with fail;refine(HC.out _).mono ?_;rintro e w1 ⟨rfl,hb1⟩;have hB1:Below w.heap.size w w1:=zA (by go_grown) hb1;go_wp2;go_returns;exact⟨zaP (by by_cases h:r=0<;>simp[h]),hB1⟩
theorem zhH(xs:List (Int×Int))(n:Nat)(limit:Int)(a:Option Addr)(cap:Nat)(w:World)(hn:n≤65536)(hrd:Rd w a (Cts xs)) :
 Calls Tryz.prog 125 #[.slice a xs.length cap,.int .i64 (n:Int),.int .i64 limit] w fun e w'=>e = .returned (.bool (decide (xs.length=n) && !xs.any (S14.badC limit)))∧Below w.heap.size w w':=by
 have B1:Below w.heap.size w (w.alloc (.cells #[.int .i64 limit] 3)):=(zF _ _).alloc (zD _) _;have k1:Blk (w.alloc (.cells #[.int .i64 limit] 3)) w.heap.size [.int .i64 limit] 3:=Blk.new w _ _;by_cases hl:xs.length=n
 ·have HC:=zB (zmE 131 (enters_of Tryz.func131 (by kernel_rfl) rfl) (.pointer (some ⟨w.heap.size,0,none⟩)) (S14.badC limit) (w.alloc (.cells #[.int .i64 limit] 3)) xs
   (fun x W hW=>badC14_any limit x w.heap.size W ((k1.step hW).cell 0)) a cap (by omega) (hrd.step B1))
  obtain⟨q,hq⟩:∃q,xs.any (S14.badC limit)=q:=⟨_,rfl⟩;rw[hq]at HC⊢;rw[zQ hl,zcN];rw[hl]at HC⊢;clear hl hq hrd;have e1:((n:Int)==(n:Int))=true:=by simp
  go_enter Tryz.func125,Tryz.ntmps125;go_wp2_with fail;refine HC.out.mono ?_;rintro e w1 ⟨rfl,hb1⟩;have hB1:=zA B1 hb1;go_wp2;go_returns;exact⟨rfl,hB1⟩
 ·rw[yD hl,Bool.false_and];have e1:((xs.length:Int)==(n:Int))=false:=by simp;omega
  go_enter Tryz.func125,Tryz.ntmps125;go_wp2;go_returns;exact⟨rfl,B1⟩
def VV(N:S14.N)(L:NLay)(k:Nat)(b:Value):Value:=.agg #[.slice L.a1 N.comps.length L.c1,.slice L.a2 N.parts.length L.c2,.slice L.a3 N.ctxs.length L.c3,.int .i64 N.part,.int .i64 (k:Int),b]
theorem zbW(N:S14.N)(L:NLay)(k:Nat)(b:Value)(hb:b.oneCell'=true)(w:World)(hN:NIs N L w)(hk:k<N.parts.length)(p:S14.P)(y:Lay)(hp:N.parts[k]? = some p)(hy:L.ys[k]? = some y) :
 Calls Tryz.prog 107 #[VV N L k b] w fun e w'=>e = .returned (PV p y)∧Below w.heap.size w w':=by
 obtain⟨bb,o,p',y',hL2,hp',hy',hcs,hP⟩:=hN.part_at hk;rw[hp]at hp';rw[hy]at hy';cases hp';cases hy';unfold VV;rw[hL2];have hkz:(k:Int)<(N.parts.length:Int):=by omega
 have hPl:some 16=some (yL p y).length:=rfl;have hPl2:(yL S14.P0 zdO).length=(yL p y).length:=rfl;have h1:=zaM p y;unfold PV;obtain⟨nc,hnc⟩:∃n,N.comps.length=n:=⟨_,rfl⟩;obtain⟨np,hnp⟩:∃n,N.parts.length=n:=⟨_,rfl⟩;obtain⟨nx,hnx⟩:∃n,N.ctxs.length=n:=⟨_,rfl⟩;obtain⟨pt,hpt⟩:∃n,N.part=n:=⟨_,rfl⟩;rw[hnp]at hkz;rw[hnc,hnp,hnx,hpt];clear hnc hnp hnx hpt hk hN;obtain⟨Q,hQ⟩:∃Q,yL p y=Q:=⟨_,rfl⟩;rw[hQ]at hcs hPl hPl2 h1⊢;clear hQ hP hp hy;obtain⟨W1,hW1⟩:∃W1,(w.alloc (.cells #[.slice L.a1 nc L.c1,.slice (some ⟨bb,o,none⟩) np L.c2,.slice L.a3 nx L.c3,.int .i64 pt,.int .i64 (k:Int),b] 102)).alloc (.cells zP 78)=W1:=⟨_,rfl⟩;have k1:Blk W1 w.heap.size [.slice L.a1 nc L.c1,.slice (some ⟨bb,o,none⟩) np L.c2,.slice L.a3 nx L.c3,.int .i64 pt,.int .i64 (k:Int),b] 102:=by rw[←hW1];exact(Blk.new w _ _).alloc _
 have k2:Blk W1 (w.heap.size+1) (yL S14.P0 zdO) 78:=by
  rw[←hW1];have h:=zeH (w.alloc (.cells #[.slice L.a1 nc L.c1,.slice (some ⟨bb,o,none⟩) np L.c2,.slice L.a3 nx L.c3,.int .i64 pt,.int .i64 (k:Int),b] 102));rwa[zV]at h
 have B1:Below w.heap.size w W1:=by rw[←hW1];exact((zF _ _).alloc (zD _) _).alloc (by simp) _
 have hcs1:=zcD hcs B1;have e1:=k1.cell 1;have e4:=k1.cell 4;simp only[zuK]at e1 e4;go_enter Tryz.func107,Tryz.ntmps107;go_wp2_with (first
  | (refine zaB 78 zP zcS (by rfl) (by rfl) ?_;rw[hW1])
  | (refine wpList_load_mid (by rfl) 78 (.tmp 8) (by rfl) bb (o+k*16) (by rfl) Q _ hcs1 Tryz.underlying78 rfl (info_P.trans hPl) ?_)
  | (refine zT 78 (.tmp 2) (.tmp 9) (by rfl) (by rfl) (w.heap.size+1) (by rfl) Q (by rfl) _ 78 k2 (info_P.trans hPl) hPl2 h1 ?_;intro wL EL gL sL))
 have hL:=run_loadVar_mid wL _ 0 _ _ _ EL.cells Tryz.underlying78 rfl (info_P.trans hPl);refine bodyPost_ret (v:=.agg Q.toArray) ?_ rfl ?_
 ·exact zbH (show Tryz.f107.results = #[.cell 2 78]from rfl) (p:=⟨w.heap.size+1,0,none⟩) rfl hL
 ·exact⟨rfl,B1.trans (yG gL (by omega) B1.size)⟩
theorem zoK(N:S14.N)(L:NLay)(k:Nat)(b:Value)(w:World)(hN:NIs N L w)(hk:k<N.ctxs.length)(pt:Nat)(hpt:N.part=(pt:Int))(hpt2:pt<4294967296) :
 Calls Tryz.prog 46 #[VV N L k b] w fun e w'=>e = .returned (.int .u32 (S14.hash (N.ctxs.getD k 0) pt:Int))∧Below w.heap.size w w':=by
 obtain⟨bb,o,hL3,hx,hlt⟩:=hN.ctx_at hk;have HH:=zB fun W=>hash14_any (N.ctxs.getD k 0) pt hlt hpt2 W;unfold VV;rw[hL3,hpt];have hkz:(k:Int)<(N.ctxs.length:Int):=by omega
 obtain⟨nc,hnc⟩:∃n,N.comps.length=n:=⟨_,rfl⟩;obtain⟨np,hnp⟩:∃n,N.parts.length=n:=⟨_,rfl⟩;obtain⟨nx,hnx⟩:∃n,N.ctxs.length=n:=⟨_,rfl⟩;obtain⟨c,hc⟩:∃c,N.ctxs.getD k 0=c:=⟨_,rfl⟩;obtain⟨H,hH⟩:∃H,S14.hash c pt=H:=⟨_,rfl⟩;rw[hc]at hx HH hlt⊢;rw[hH]at HH⊢;rw[hnx]at hkz;rw[hnc,hnp,hnx];clear hnc hnp hnx hc hH hk hN hpt;obtain⟨W1,hW1⟩:∃W1,w.alloc (.cells #[.slice L.a1 nc L.c1,.slice L.a2 np L.c2,.slice (some ⟨bb,o,none⟩) nx L.c3,.int .i64 (pt:Int),.int .i64 (k:Int),b] 102)=W1:=⟨_,rfl⟩;have k1:Blk W1 w.heap.size [.slice L.a1 nc L.c1,.slice L.a2 np L.c2,.slice (some ⟨bb,o,none⟩) nx L.c3,.int .i64 (pt:Int),.int .i64 (k:Int),b] 102:=by rw[←hW1];exact Blk.new w _ _
 have B1:Below w.heap.size w W1:=by rw[←hW1];exact(zF _ _).alloc (zD _) _
 have hx1:=(B1.cell (zL hx)).trans hx;go_enter Tryz.func46,Tryz.ntmps46;go_wp2_with (rw[hW1]);have hCS:Cells W1 [(⟨w.heap.size,2,none⟩,.slice (some ⟨bb,o,none⟩) nx L.c3),(⟨w.heap.size,3,none⟩,.int .i64 (pt:Int)),(⟨w.heap.size,4,none⟩,.int .i64 (k:Int)),(⟨bb,o+k,none⟩,.int .u32 (c:Int))]:=⟨k1.cell 2,k1.cell 3,k1.cell 4,hx1,yF⟩;refine zuL 11 1 [(U,[U,U,U,U,U,U,U,U,U,U]),(zuH,[zuH,zuH,zuH,zuH,zuH,zuH,zuH,zuH,zuH,zuH,U])] (Keeps W1 [(⟨w.heap.size,2,none⟩,.slice (some ⟨bb,o,none⟩) nx L.c3),(⟨w.heap.size,3,none⟩,.int .i64 (pt:Int)),(⟨w.heap.size,4,none⟩,.int .i64 (k:Int)),(⟨bb,o+k,none⟩,.int .u32 (c:Int))]) (by kernel_rfl) (Keeps.start hCS) (fun Y Q4 F4 hY hF=> ?_);simp only[zuJ]
 repeat
  apply zJ (by rw[hY];rfl)
  ·intro w2 hS2;(try simp only[Keeps,Cells]at hS2);go_simp;with_reducible rfl
  simp only[zuI]
 apply zR (by rw[hY];rfl)
 ·go_simp;with_reducible exact⟨rfl,rfl⟩
 refine(HH.out _).mono ?_;rintro e w2 ⟨rfl,hb2⟩;have hk2:=(Keeps.start hCS).step hb2;refine⟨_,rfl,hk2,?_⟩;simp only[zuI];refine yE (hF.out _ _ (fun K hK=> ?_));clear hF hY;have hB2:=zA B1 hk2.1;go_wp2_with fail;refine OnlyK.mk (hK.out _ _ ?_);clear hK hk2;go_wp2;go_returns;exact⟨rfl,hB2⟩
theorem zeT(N:S14.N)(L:NLay)(k:Nat)(b:Value)(w:World)(hN:NIs N L w)(hk:k<N.ctxs.length)(pt:Nat)(hpt:N.part=(pt:Int))(hpt2:pt<4294967296)(c:S14.C)(hc:N.comps[k]? = some c)(n:Nat)(hn:c.bits=(n:Int))(hn2:n≤16) :
 Calls Tryz.prog 123 #[VV N L k b] w fun e w'=>e = .returned (.int .i64 (S14.index (N.ctxs.getD k 0) pt n:Int))∧Below w.heap.size w w':=by
 have HH:=zB fun(W:World) (hW:Below w.heap.size w W)=>zoK N L k b W (hN.step hW) hk pt hpt hpt2;obtain⟨bb,o,hL1,hE⟩:=hN.comp_at hc;have hkz:(k:Int)<(N.comps.length:Int):=by have:=(List.getElem?_eq_some_iff.1 hc).1;omega
 have hx:=hE.e1;rw[hn]at hx;unfold S14.index;have hlt:=S14.hash_lt (N.ctxs.getD k 0) pt;unfold VV at HH⊢;rw[hL1,hpt]at HH⊢;obtain⟨nc,hnc⟩:∃n,N.comps.length=n:=⟨_,rfl⟩;obtain⟨np,hnp⟩:∃n,N.parts.length=n:=⟨_,rfl⟩;obtain⟨nx,hnx⟩:∃n,N.ctxs.length=n:=⟨_,rfl⟩;obtain⟨H,hH⟩:∃H,S14.hash (N.ctxs.getD k 0) pt=H:=⟨_,rfl⟩;rw[hH]at HH hlt⊢;rw[hnc]at hkz;rw[hnc,hnp,hnx]at HH⊢;clear hnc hnp hnx hH hk hN hpt hE hc hn;obtain⟨W1,hW1⟩:∃W1,w.alloc (.cells #[.slice (some ⟨bb,o,none⟩) nc L.c1,.slice L.a2 np L.c2,.slice L.a3 nx L.c3,.int .i64 (pt:Int),.int .i64 (k:Int),b] 102)=W1:=⟨_,rfl⟩;have k1:Blk W1 w.heap.size [.slice (some ⟨bb,o,none⟩) nc L.c1,.slice L.a2 np L.c2,.slice L.a3 nx L.c3,.int .i64 (pt:Int),.int .i64 (k:Int),b] 102:=by rw[←hW1];exact Blk.new w _ _
 have B1:Below w.heap.size w W1:=by rw[←hW1];exact(zF _ _).alloc (zD _) _
 have hx1:=(B1.cell (zL hx)).trans hx;have hw1:IntKind.i64.wrap (32-(n:Int))=((32-n:Nat):Int):=by rw[IntWalk.i64_in _ (by omega)];omega
 have hw2:IntKind.u64.wrap (H:Int)=(H:Int):=by rw[IntKind.wrap_u64];omega
 have hq:H/2^(32-n)≤H:=Nat.div_le_self _ _;have hdv:(H:Int)/2^(32-n)=((H/2^(32-n):Nat):Int):=by simp
 obtain⟨q,hqe⟩:∃q,H/2^(32-n)=q:=⟨_,rfl⟩;rw[hqe]at hq hdv⊢;have hw3:IntKind.i64.wrap (q:Int)=(q:Int):=IntWalk.i64_in _ (by omega);have hdw:=zB (hdv▸hw3:IntKind.i64.wrap ((H:Int)/2^(32-n))=((q:Nat):Int));clear hqe hdv;go_enter Tryz.func123,Tryz.ntmps123;go_wp2_with (rw[hW1]);have hCS:Cells W1 [(⟨w.heap.size,0,none⟩,.slice (some ⟨bb,o,none⟩) nc L.c1),(⟨w.heap.size,1,none⟩,.slice L.a2 np L.c2),(⟨w.heap.size,2,none⟩,.slice L.a3 nx L.c3),(⟨w.heap.size,3,none⟩,.int .i64 (pt:Int)),(⟨w.heap.size,4,none⟩,.int .i64 (k:Int)),(⟨w.heap.size,5,none⟩,b),(⟨bb,o+k*6+1,none⟩,.int .i64 (n:Int))]:=⟨k1.cell 0,k1.cell 1,k1.cell 2,k1.cell 3,k1.cell 4,k1.cell 5,hx1,yF⟩;refine zuL 14 1 [(U,[U,zuH,zuH,U,U,U,U,U,U,U,U,U]),(zuH,[zuH,U]),(U,[zuH,zuH,U,zuH,zuH,zuH,zuH,zuH,zuH,zuH,zuH,zuH,U,U])] (Keeps W1 [(⟨w.heap.size,0,none⟩,.slice (some ⟨bb,o,none⟩) nc L.c1),(⟨w.heap.size,1,none⟩,.slice L.a2 np L.c2),(⟨w.heap.size,2,none⟩,.slice L.a3 nx L.c3),(⟨w.heap.size,3,none⟩,.int .i64 (pt:Int)),(⟨w.heap.size,4,none⟩,.int .i64 (k:Int)),(⟨w.heap.size,5,none⟩,b),(⟨bb,o+k*6+1,none⟩,.int .i64 (n:Int))]) (by kernel_rfl) (Keeps.start hCS) (fun Y Q4 F4 hY hF=> ?_);simp only[zuJ]
 repeat
  apply zJ (by rw[hY];rfl)
  ·intro w2 hS2;(try simp only[Keeps,Cells]at hS2);go_simp;with_reducible rfl
  simp only[zuI]
 apply zR (by rw[hY];rfl)
 ·go_simp;with_reducible exact⟨rfl,rfl⟩
 refine(HH.out _ (zA B1 (Keeps.start hCS).1)).mono ?_;rintro e w2 ⟨rfl,hb2⟩;have hk2:=(Keeps.start hCS).step hb2;refine⟨_,rfl,hk2,?_⟩;simp only[zuI]
 repeat
  apply zJ (by rw[hY];rfl)
  ·intro w2 hS2;(try simp only[Keeps,Cells]at hS2);go_simp;with_reducible rfl
  simp only[zuI]
 rw[hdw.out];refine yE (hF.out _ _ (fun K hK=> ?_));clear hF hY;have hB2:=zA B1 hk2.1;go_wp2_with fail;refine OnlyK.mk (hK.out _ _ ?_);clear hK hk2;go_wp2;go_returns;exact⟨rfl,hB2⟩
def S14.outs(O:Nat→List Int→Int):Nat→List Int
 | 0=>[]
 | k+1=>S14.outs O k ++ [O k (S14.outs O k)]
theorem S14.outs_length(O:Nat→List Int→Int):∀k,(S14.outs O k).length=k
 | 0=>rfl
 | k+1=>by rw[S14.outs,yN,S14.outs_length O k];rfl
def OutF(c:S14.C):FuncId:=
 if c.kind=0 then 105 else if c.kind=1 then 117 else if c.kind=2 then 146 else if c.kind=3 then 162 else if c.kind=4 then 191 else if c.kind=5 then 199 else 219
def zhE(N:S14.N)(L:NLay)(w:World)(O:Nat→List Int→Int):Prop:=
 ∀(k:Nat) (c:S14.C),N.comps[k]? = some c→∀(bef:List Int) (a:Option Addr) (W:World),Below w.heap.size w W→Rd W a (zaK bef)→bef.length=k→(∀x∈bef,-3071≤x∧x≤3071)→
  (Calls Tryz.prog (OutF c) #[CV c,VV N L k (.slice a k k)] W fun e w'=>e = .returned (.int .i64 (O k bef))∧Below W.heap.size W w')∧ -3071≤O k bef∧O k bef≤3071
theorem zmK(v:Value)(w:World):(nilAhead 371 111 v "compactor/network.output").run Tryz.prog w = .ok (some false) w:=by kernel_rfl
theorem znS(v:Value)(w:World):(method 371 111 v "compactor/network.output").run Tryz.prog w = .ok (105,v) w:=by kernel_rfl
theorem zqW(v:Value)(w:World):(nilAhead 371 112 v "compactor/network.output").run Tryz.prog w = .ok (some false) w:=by kernel_rfl
theorem zrJ(v:Value)(w:World):(method 371 112 v "compactor/network.output").run Tryz.prog w = .ok (117,v) w:=by kernel_rfl
theorem zoA(v:Value)(w:World):(nilAhead 371 113 v "compactor/network.output").run Tryz.prog w = .ok (some false) w:=by kernel_rfl
theorem zpN(v:Value)(w:World):(method 371 113 v "compactor/network.output").run Tryz.prog w = .ok (146,v) w:=by kernel_rfl
theorem znZ(v:Value)(w:World):(nilAhead 371 114 v "compactor/network.output").run Tryz.prog w = .ok (some false) w:=by kernel_rfl
theorem zpM(v:Value)(w:World):(method 371 114 v "compactor/network.output").run Tryz.prog w = .ok (162,v) w:=by kernel_rfl
theorem zoB(v:Value)(w:World):(nilAhead 371 115 v "compactor/network.output").run Tryz.prog w = .ok (some false) w:=by kernel_rfl
theorem zpO(v:Value)(w:World):(method 371 115 v "compactor/network.output").run Tryz.prog w = .ok (191,v) w:=by kernel_rfl
theorem zrN(v:Value)(w:World):(nilAhead 371 116 v "compactor/network.output").run Tryz.prog w = .ok (some false) w:=by kernel_rfl
theorem ztN(v:Value)(w:World):(method 371 116 v "compactor/network.output").run Tryz.prog w = .ok (199,v) w:=by kernel_rfl
theorem znY(v:Value)(w:World):(nilAhead 371 117 v "compactor/network.output").run Tryz.prog w = .ok (some false) w:=by kernel_rfl
theorem zpL(v:Value)(w:World):(method 371 117 v "compactor/network.output").run Tryz.prog w = .ok (219,v) w:=by kernel_rfl
theorem mk0_14(n:Nat)(hn:n≤200)(w:World):(Instr.makeSlice 69 (.int .i64 0) (.int .i64 (n:Int))).run Tryz.prog w = .ok (.slice (some ⟨w.heap.size,0,none⟩) 0 n) (w.alloc (.cells (List.replicate n (.int .i64 0)).toArray 3)):=by
 obtain⟨i,z',hi,hz,hsz,hby,hzs,hzc⟩:=elems_ints.open;have hr:=run_make (P:=Tryz.prog) w 69 3 i z' elems_ints.1 hi hz .i64 .i64 0 n (by omega) (by omega) (by rw[hby];omega) (by omega);simp only[Int.toNat_natCast]at hr;have hc:z'.cells = #[.int .i64 0]:=by
  apply Array.ext';rw[hzc]
 have hm:madeCells z'.cells (n*i.size)=(List.replicate n (Value.int .i64 0)).toArray:=by
  rw[hsz,zaO,hc];apply Array.ext';rw[toList_madeCells_one]
 rw[hm]at hr;exact hr
theorem ztF(N:S14.N)(L:NLay)(O:Nat→List Int→Int)(w:World)(hN:NIs N L w)(hl:N.comps.length≤16)(hk6:∀c∈N.comps,0≤c.kind∧c.kind≤6)(HK:zhE N L w O) :
 Calls Tryz.prog 49 #[NV N L] w fun e w'=>∃a cap,e = .returned (.slice a N.comps.length cap)∧Rd w' a (zaK (S14.outs O N.comps.length))∧(∀g o,a=some ⟨g,o,none⟩→w.heap.size≤g)∧N.comps.length≤cap∧Below w.heap.size w w':=by
 have HN:=zB hN;have HO:=zB fun(x:S14.C) W=>(show Calls Tryz.prog 26 #[.agg #[.int .i64 x.kind,.int .i64 x.bits,.int .i64 x.limit,.int .i64 x.rate,.int .i64 x.first,.int .i64 x.second]] W _ from ziL x W);have HH:=zB HK;have Hk6:=zB hk6;unfold NV zdN;have Hnc:=zB (rfl:N.comps.length=N.comps.length);obtain⟨nc,hnc⟩:∃n,N.comps.length=n:=⟨_,rfl⟩;obtain⟨np,hnp⟩:∃n,N.parts.length=n:=⟨_,rfl⟩;obtain⟨nx,hnx⟩:∃n,N.ctxs.length=n:=⟨_,rfl⟩;obtain⟨pt,hpt⟩:∃n,N.part=n:=⟨_,rfl⟩;rw[hnc]at hl;rw[hnc,hnp,hnx,hpt];unfold zhE VV at HH;rw[hnc,hnp,hnx,hpt]at HH;have Hnc2:=zB hnc;clear hnc hnp hnx hpt hN HK hk6 Hnc;obtain⟨W0,hW0⟩:∃W0,w.alloc (.cells #[.slice L.a1 nc L.c1,.slice L.a2 np L.c2,.slice L.a3 nx L.c3,.int .i64 pt] 40)=W0:=⟨_,rfl⟩;have k0:Blk W0 w.heap.size [.slice L.a1 nc L.c1,.slice L.a2 np L.c2,.slice L.a3 nx L.c3,.int .i64 pt] 40:=by rw[←hW0];exact Blk.new w _ _
 have z0:W0.heap.size=w.heap.size+1:=by rw[←hW0];simp
 have B0:Below w.heap.size w W0:=by rw[←hW0];exact(zF _ _).alloc (zD _) _
 have hmk:=mk0_14 nc (by omega) W0;obtain⟨W1,hW1⟩:∃W1,W0.alloc (.cells (List.replicate nc (.int .i64 0)).toArray 3)=W1:=⟨_,rfl⟩;obtain⟨G,hG⟩:∃G,w.heap.size+1=G:=⟨_,rfl⟩;have hown:W1.ownsRow G 3 1 (.slice (some ⟨G,0,none⟩) 0 nc) 0 (zaK (S14.outs O 0)):=by
  rw[←hW1,←hG,←z0];exact World.ownsRow_made W0 _ nc (zD _) (by unfold maxLen;omega) (by simp)
 have hb1:Below W0.heap.size W0 W1:=by rw[←hW1];exact(zF _ _).alloc (zD _) _
 have k1:=k0.step hb1;have B1:=zA B0 hb1;have hz1:G≤W1.heap.size:=by rw[←hG,←z0];exact hb1.size
 rw[hW1,z0,hG]at hmk;clear hb1 hW1 B0;have c00:=k0.cell 0;have c10:=k1.cell 0;simp only[lgz]at c00 c10;go_enter Tryz.func49,Tryz.ntmps49;go_wp2_with (rw[hW0]);clear k0 c00 hW0 z0 hmk c10
 go_loopw [3,13] (fun v i wr=>∃(k:Nat) (a:Option Addr) (c:Nat),k≤nc∧i = .int .i64 (k:Int)∧v = .slice a k c∧Hid (wr.ownsRow G 3 1 (.slice a k c) k (zaK (S14.outs O k)))∧Hid (∀x∈S14.outs O k,-3071≤x∧x≤3071)∧
  Blk wr w.heap.size [.slice L.a1 nc L.c1,.slice L.a2 np L.c2,.slice L.a3 nx L.c3,.int .i64 pt] 40∧Below w.heap.size w wr∧G≤wr.heap.size) (fun _ i _=>nc-(intOf i).toNat)
 case atStart=>exact⟨0,_,nc,by omega,rfl,rfl,zB hown,zB (fun x hx=>by cases hx),k1,B1,hz1⟩
 case round=>
  clear hown k1 B1 hz1;obtain⟨k,a,c,hk,rfl,rfl,hown,hin,k0,hB,hz⟩:=hrel;by_cases hlt:k<nc
  ·have hkz:(k:Int)<(nc:Int):=by omega
   obtain⟨x,hx⟩:∃x,N.comps[k]? = some x:=⟨_,zE (by have:=Hnc2.out;omega)⟩;obtain⟨g,o,hga,x0,x1,x2,x3,x4,x5⟩:=(HN.out.step hB).comp_at hx;have Hx:=zB hx;have hkd:=Hk6.out x (zdB hx);obtain⟨hkc,hcm⟩:k≤c∧c≤maxLen:=by
    obtain⟨a0,c0,e,h1,h2⟩:=zaX hown.out;simp only[Value.slice.injEq]at e;omega
   have hkcz:(k:Int)≤(c:Int):=by omega
   rw[hga]at k0 HH⊢;obtain⟨W5,hW5⟩:∃W5,wr.alloc (.cells #[.int .i64 x.kind,.int .i64 x.bits,.int .i64 x.limit,.int .i64 x.rate,.int .i64 x.first,.int .i64 x.second] 37)=W5:=⟨_,rfl⟩;obtain⟨Q,hQ⟩:∃Q,wr.heap.size=Q:=⟨_,rfl⟩;have kQ:Blk W5 Q [.int .i64 x.kind,.int .i64 x.bits,.int .i64 x.limit,.int .i64 x.rate,.int .i64 x.first,.int .i64 x.second] 37:=by rw[←hW5,←hQ];exact Blk.new wr _ _
   have hb5:Below wr.heap.size wr W5:=by rw[←hW5];exact(zF _ _).alloc (zD _) _
   have k05:=k0.step hb5;have B5:=zA hB hb5;have hz5:G≤W5.heap.size:=yC hz hb5.size;have hown5:=yX (B:=0) hown.out hb5;have Hown5:=zB hown5
   have hCS:Cells W5 [(⟨Q,0,none⟩,.int .i64 x.kind),(⟨Q,1,none⟩,.int .i64 x.bits),(⟨Q,2,none⟩,.int .i64 x.limit),(⟨Q,3,none⟩,.int .i64 x.rate),(⟨Q,4,none⟩,.int .i64 x.first),(⟨Q,5,none⟩,.int .i64 x.second),(⟨w.heap.size,0,none⟩,.slice (some ⟨g,o,none⟩) nc L.c1),(⟨w.heap.size,1,none⟩,.slice L.a2 np L.c2),(⟨w.heap.size,2,none⟩,.slice L.a3 nx L.c3),(⟨w.heap.size,3,none⟩,.int .i64 pt)]:=
    ⟨kQ.cell 0,kQ.cell 1,kQ.cell 2,kQ.cell 3,kQ.cell 4,kQ.cell 5,k05.cell 0,k05.cell 1,k05.cell 2,k05.cell 3,yF⟩
   have c00:=k0.cell 0;simp only[lgz]at c00;clear hown5 hb5 k0;go_wp2_with (first|(rw[hW5,hQ])|(rw[hW5])|fail);have hX:=HH.out k x Hx.out (S14.outs O k) a W5 B5 (Rd.of_owns Hown5.out) (S14.outs_length O k) hin.out;have HRG:=zB hX.2;have hX2:=fun(W:World) (hW:Below W5.heap.size W5 W)=>(HH.out k x Hx.out (S14.outs O k) a W (zA B5 hW) (Rd.of_owns (yX (B:=0) Hown5.out hW)) (S14.outs_length O k) hin.out).1;obtain⟨R,hR⟩:∃R,O k (S14.outs O k)=R:=⟨_,rfl⟩;rw[hR]at hX2 HRG;have HR:=zB hR;clear hX hR;unfold CV zZ at hX2;have hof0:OfV x=OfV x:=rfl;have Hof:=zB (show∀V,OfV x=V→OfV x=V from fun _ h=>h);unfold OutF at hX2;obtain⟨TT,FF,hof,hX3,hen,hme,hah⟩:∃(TT:TypeId) (FF:FuncId),OfV x = .iface TT (.agg #[.int .i64 x.kind,.int .i64 x.bits,.int .i64 x.limit,.int .i64 x.rate,.int .i64 x.first,.int .i64 x.second])∧(∀W,Below W5.heap.size W5 W→Calls Tryz.prog FF #[.agg #[.int .i64 x.kind,.int .i64 x.bits,.int .i64 x.limit,.int .i64 x.rate,.int .i64 x.first,.int .i64 x.second],.agg #[.slice (some ⟨g,o,none⟩) nc L.c1,.slice L.a2 np L.c2,.slice L.a3 nx L.c3,.int .i64 pt,.int .i64 (k:Int),.slice a k k]] W fun e w'=>e = .returned (.int .i64 R)∧Below W.heap.size W w')∧(∀args w,(callFunc FF args).run Tryz.prog w = .ok (.enter FF args) w)∧(∀w,(method 371 TT (.agg #[.int .i64 x.kind,.int .i64 x.bits,.int .i64 x.limit,.int .i64 x.rate,.int .i64 x.first,.int .i64 x.second]) "compactor/network.output").run Tryz.prog w = .ok (FF,(.agg #[.int .i64 x.kind,.int .i64 x.bits,.int .i64 x.limit,.int .i64 x.rate,.int .i64 x.first,.int .i64 x.second])) w)∧(∀w,(nilAhead 371 TT (.agg #[.int .i64 x.kind,.int .i64 x.bits,.int .i64 x.limit,.int .i64 x.rate,.int .i64 x.first,.int .i64 x.second]) "compactor/network.output").run Tryz.prog w = .ok (some false) w):=by
    by_cases k0:x.kind=0
    ·refine⟨111,105,?_,?_,enters_of Tryz.func105 (by kernel_rfl) rfl,znS _,zmK _⟩
     ·unfold OfV CV zZ;simp only[k0];rfl
     ·intro W hW;have:=hX2 W hW;simp only[k0]at this⊢;exact this
    by_cases k1:x.kind=1
    ·refine⟨112,117,?_,?_,enters_of Tryz.func117 (by kernel_rfl) rfl,zrJ _,zqW _⟩
     ·unfold OfV CV zZ;simp only[k1];rfl
     ·intro W hW;have:=hX2 W hW;simp only[k1]at this⊢;exact this
    by_cases k2:x.kind=2
    ·refine⟨113,146,?_,?_,enters_of Tryz.func146 (by kernel_rfl) rfl,zpN _,zoA _⟩
     ·unfold OfV CV zZ;simp only[k2];rfl
     ·intro W hW;have:=hX2 W hW;simp only[k2]at this⊢;exact this
    by_cases k3:x.kind=3
    ·refine⟨114,162,?_,?_,enters_of Tryz.func162 (by kernel_rfl) rfl,zpM _,znZ _⟩
     ·unfold OfV CV zZ;simp only[k3];rfl
     ·intro W hW;have:=hX2 W hW;simp only[k3]at this⊢;exact this
    by_cases k4:x.kind=4
    ·refine⟨115,191,?_,?_,enters_of Tryz.func191 (by kernel_rfl) rfl,zpO _,zoB _⟩
     ·unfold OfV CV zZ;simp only[k4];rfl
     ·intro W hW;have:=hX2 W hW;simp only[k4]at this⊢;exact this
    by_cases k5:x.kind=5
    ·refine⟨116,199,?_,?_,enters_of Tryz.func199 (by kernel_rfl) rfl,ztN _,zrN _⟩
     ·unfold OfV CV zZ;simp only[k5];rfl
     ·intro W hW;have:=hX2 W hW;simp only[k5]at this⊢;exact this
    by_cases k6:x.kind=6
    ·refine⟨117,219,?_,?_,enters_of Tryz.func219 (by kernel_rfl) rfl,zpL _,znY _⟩
     ·unfold OfV CV zZ;simp only[k6];rfl
     ·intro W hW;have:=hX2 W hW;simp only[k6]at this⊢;exact this
    omega
   have HX:=zB hX3;clear hX2 hX3 hof0 Hof;go_wp2_with fail;refine zuL 16 1 [(U,[U,U,zuH,U,U,U,U,U,U,U]),(zuH,[zuH,zuH,U]),(U,[zuH,zuH,zuH,zuH,zuH,zuH,zuH,zuH,zuH,zuH,U,U,U]),(zuH,[zuH,zuH,zuH,zuH,zuH,zuH,zuH,zuH,zuH,zuH,zuH,zuH,zuH,U]),(zuH,[zuH,zuH,zuH,zuH,zuH,zuH,zuH,zuH,zuH,zuH,zuH,zuH,zuH,zuH,U]),(zuH,[zuH,zuH,zuH,zuH,zuH,zuH,zuH,zuH,zuH,zuH,zuH,zuH,zuH,zuH,zuH,U])] (fun K=>Below G W5 K∧Cells K [(⟨Q,0,none⟩,.int .i64 x.kind),(⟨Q,1,none⟩,.int .i64 x.bits),(⟨Q,2,none⟩,.int .i64 x.limit),(⟨Q,3,none⟩,.int .i64 x.rate),(⟨Q,4,none⟩,.int .i64 x.first),(⟨Q,5,none⟩,.int .i64 x.second),(⟨w.heap.size,0,none⟩,.slice (some ⟨g,o,none⟩) nc L.c1),(⟨w.heap.size,1,none⟩,.slice L.a2 np L.c2),(⟨w.heap.size,2,none⟩,.slice L.a3 nx L.c3),(⟨w.heap.size,3,none⟩,.int .i64 pt)]) (by kernel_rfl) (⟨(zF _ _).drew,hCS⟩) (fun Y Q4 F4 hY hF=> ?_);simp only[zuJ]
   repeat
    apply zJ (by rw[hY];rfl)
    ·intro w2 hS2;(try simp only[Keeps,Cells]at hS2);go_simp;with_reducible rfl
    simp only[zuI]
   apply zR (by rw[hY];rfl)
   ·go_simp;with_reducible exact⟨rfl,rfl⟩
   refine(HO.out x _).mono ?_;rintro e w6 ⟨rfl,hb6⟩;have hb56:Below W5.heap.size W5 w6:=zA ((zF _ _).drew) hb6;have hcs6:Cells w6 [(⟨Q,0,none⟩,.int .i64 x.kind),(⟨Q,1,none⟩,.int .i64 x.bits),(⟨Q,2,none⟩,.int .i64 x.limit),(⟨Q,3,none⟩,.int .i64 x.rate),(⟨Q,4,none⟩,.int .i64 x.first),(⟨Q,5,none⟩,.int .i64 x.second),(⟨w.heap.size,0,none⟩,.slice (some ⟨g,o,none⟩) nc L.c1),(⟨w.heap.size,1,none⟩,.slice L.a2 np L.c2),(⟨w.heap.size,2,none⟩,.slice L.a3 nx L.c3),(⟨w.heap.size,3,none⟩,.int .i64 pt)]:=Cells.step hb56 hCS;refine⟨_,rfl,⟨hb56.mono hz5,hcs6⟩,?_⟩;simp only[zuI];rw[hof]
   repeat
    apply zJ (by rw[hY];rfl)
    ·intro w2 hS2;(try simp only[Keeps,Cells]at hS2);go_simp;with_reducible rfl
    simp only[zuI]
   apply zR (by rw[hY];rfl)
   ·go_simp;first|with_reducible exact⟨rfl,rfl⟩|with_reducible rfl
   refine(HX.out w6 hb56).mono ?_;rintro e w7 ⟨rfl,hb7⟩;have hcs7:Cells w7 [(⟨Q,0,none⟩,.int .i64 x.kind),(⟨Q,1,none⟩,.int .i64 x.bits),(⟨Q,2,none⟩,.int .i64 x.limit),(⟨Q,3,none⟩,.int .i64 x.rate),(⟨Q,4,none⟩,.int .i64 x.first),(⟨Q,5,none⟩,.int .i64 x.second),(⟨w.heap.size,0,none⟩,.slice (some ⟨g,o,none⟩) nc L.c1),(⟨w.heap.size,1,none⟩,.slice L.a2 np L.c2),(⟨w.heap.size,2,none⟩,.slice L.a3 nx L.c3),(⟨w.heap.size,3,none⟩,.int .i64 pt)]:=Cells.step hb7 hcs6;have hb57:Below W5.heap.size W5 w7:=zA hb56 hb7;refine⟨_,rfl,⟨hb57.mono hz5,hcs7⟩,?_⟩;simp only[zuI];have hb8:Below w7.heap.size w7 (w7.alloc (.cells #[.int .i64 R] 3)):=(zF _ _).alloc (zD _) _;have hb58:=zA hb57 hb8;have hcs8:=Cells.step hb8 hcs7;have hown8:=yX (B:=0) Hown5.out hb58;have hrd8:Rd (w7.alloc (.cells #[.int .i64 R] 3)) (some ⟨w7.heap.size,0,none⟩) (zaK [R]):=(fun _=>⟨_,0,rfl,(Blk.new w7 [.int .i64 R] 3).cells⟩);have kQ8:=kQ.step hb58;have k08:=k05.step hb58;have hz8:G≤(w7.alloc (.cells #[.int .i64 R] 3)).heap.size:=yC hz5 hb58.size;have Hh8:=zB hown8;have Hr8:=zB hrd8;clear hown8 hrd8;refine zbZ (by rw[hY];rfl) (by go_simp;first|with_reducible exact⟨rfl,rfl⟩|with_reducible rfl) ((show Below G W5 (w7.alloc (.cells #[.int .i64 R] 3))∧Cells (w7.alloc (.cells #[.int .i64 R] 3)) [(⟨Q,0,none⟩,.int .i64 x.kind),(⟨Q,1,none⟩,.int .i64 x.bits),(⟨Q,2,none⟩,.int .i64 x.limit),(⟨Q,3,none⟩,.int .i64 x.rate),(⟨Q,4,none⟩,.int .i64 x.first),(⟨Q,5,none⟩,.int .i64 x.second),(⟨w.heap.size,0,none⟩,.slice (some ⟨g,o,none⟩) nc L.c1),(⟨w.heap.size,1,none⟩,.slice L.a2 np L.c2),(⟨w.heap.size,2,none⟩,.slice L.a3 nx L.c3),(⟨w.heap.size,3,none⟩,.int .i64 pt)]from⟨hb58.mono hz5,hcs8⟩)) ?_;simp only[zuI];generalize w7.alloc (.cells #[.int .i64 R] 3)=w8 at *;refine wpSeq_append (.tmp 18) (.tmp 32) 69 3 1 8 _ G elems_ints (.slice a k c) k (zaK (S14.outs O k)) (some ⟨w7.heap.size,0,none⟩) 1 1 (zaK [R]) (by rw[hY];rfl) rfl rfl rfl rfl (zlG [R]) (by unfold maxLen;omega) (by omega) Hh8.out Hr8.out hz8 ?_;intro a9 c9 w9 hown9 hg9;have hne:=zbQ Hh8.out kQ8 (by decide);have hne0:=zbQ Hh8.out k08 (by decide);have kQ9:=kQ8.keptRow hg9 (Ne.symm hne);have k09:=k08.keptRow hg9 (Ne.symm hne0);have hB9:Below G w8 w9:=Below.grown (zF _ _) hg9 hz8 (fun r e=>(zbX Hh8.out e).1);have hB59:Below G W5 w9:=(hb58.mono hz5).trans hB9;have hres:w9.ownsRow G 3 1 (.slice a9 (k+1) c9) (k+1) (zaK (S14.outs O (k+1))):=by
    rw[S14.outs,HR.out];have e:zaK (S14.outs O k ++ [R])=zaK (S14.outs O k)++zaK [R]:=by unfold zaK;rw[List.map_append]
    rw[e];exact hown9
   have Hres:=zB hres;refine⟨⟨hB59,kQ9.cell 0,kQ9.cell 1,kQ9.cell 2,kQ9.cell 3,kQ9.cell 4,kQ9.cell 5,k09.cell 0,k09.cell 1,k09.cell 2,k09.cell 3,yF⟩,?_⟩;simp only[zuI];have hzB:Below w.heap.size w w9:=B5.trans (hB59.mono (by omega));have hz9:=hB59.size;clear hown9 hres hg9 hne hne0;refine yE (hF.out _ _ (fun K hK=> ?_));clear hF hY;go_wp2_with fail;refine OnlyK.mk (hK.out _ _ ?_);clear hK;go_wp2;go_roundw
   case rel=>
    refine⟨k+1,a9,c9,by omega,by simp,rfl,Hres.out |> zB,zB (fun y hy=> ?_),k09,hzB,by omega⟩;rw[S14.outs]at hy;rcases List.mem_append.1 hy with h|h
    ·exact hin.out y h
    ·rw[List.mem_singleton.1 h];rw[HR.out];exact HRG.out
   case measure=>simp[intOf];omega
  ·obtain rfl:k=nc:=by omega
   have hres:=zB (Rd.of_owns hown.out);have hkc:k≤c:=by
    obtain⟨a0,c0,e,h1,h2⟩:=zaX hown.out;simp only[Value.slice.injEq]at e;omega
   have Hfar:=zB (show∀g o,a=some ⟨g,o,none⟩→w.heap.size≤g from fun g o e=>by
    have:=(hown.out.lt g (by rw[e];rfl)).1;omega)
   go_wp2;go_returns;exact⟨a,c,rfl,hres.out,Hfar.out,hkc,hB⟩
namespace S14
def noM(m:S12.M):Bool:=m.bits==0&&m.least==0&&m.at_==0&&m.len==0&&m.part==0&&m.bit==0&&decide (m.heads.length+m.bytes.length+m.ctrs.length=0)
def bare(p:P):Bool:=decide (p.ctrs.length=0)&&p.sb==0&&decide (p.sd.length=0)&&p.slot==0&&noM p.m&&p.mi==0&&decide (p.mw.length=0)&&decide (p.ac.length=0)
def okCtrs(l:List (Int×Int))(n:Nat)(limit:Int):Bool:=decide (l.length=n) && !l.any (fun c=>decide (S08.check c.1 c.2 limit≠0))
def zM:S12.M:=⟨0,0,[],[],0,0,0,0,[]⟩
def right(c:C)(p:P)(pt:Int):Bool:=
 if c.kind=0 then bare p
 else if c.kind=1 then bare {p with ctrs:=[]}&&okCtrs p.ctrs (2^c.bits.toNat) c.limit
 else if c.kind=2 then okCtrs p.ctrs 215 c.limit&&p.sb==c.bits&&decide (S10.check p.sb p.sd=0)&&has p.slot 0 (2^c.bits.toNat-1)&&bare {p with ctrs:=[],sb:=0,sd:=[],slot:=0}
 else if c.kind=3 then bare {p with m:=zM}&&p.m.bits==c.bits&&p.m.least==c.limit&&p.m.part==pt&&decide (S12.check p.m=0)
 else if c.kind=4 then bare p
 else if c.kind=5 then bare {p with mi:=0,mw:=[]}&&p.mi==c.second-c.first+1&&decide ((p.mw.length:Int)=2^c.bits.toNat)&&decide (S13.check 16 p.mi p.mw=0)
 else if c.kind=6 then bare {p with ac:=[]}&&decide ((p.ac.length:Int)=33*2^c.bits.toNat)&&decide (S11.check p.ac=0)
 else false
def at_(N:N)(k:Nat)(c:C):Nat:=index (N.ctxs.getD k 0) N.part.toNat c.bits.toNat
def ctr(p:P)(i:Nat):Int×Int:=p.ctrs.getD i (0,0)
def probe(p:P)(i:Nat):Int:=S06.stretch (S08.predict (ctr p i).1 (ctr p i).2)
end S14
theorem exec_loadM{P:Program}{w:World}{o:Oper}{a:Act}(T:TypeId)(x:Operand)(ho:o.op = .load T x)(b off:Nat)(hx:a.eval x = .pointer (some ⟨b,off,none⟩))(cs:List Value)(hc:w.rangeAt b off cs)(d:TypeDesc)(hu:P.underlying T=some d)(hd:d.isRow=true)(hi:(P.info? T).map (·.size)=some cs.length) :
 (execOp a.eval o).run P w = .ok (.value (.agg cs.toArray)) w:=by
 unfold execOp;simp only[ho,hx,Instr.loadAt,Instr.sureAddr,Sem.run_bind,Sem.run_pure,Result.andThen_ok,run_loadVar_mid w b off T cs d hc hu hd hi]
def S14.allRight(N:S14.N):Prop:=∀(k:Nat) (c:S14.C) (p:S14.P),N.comps[k]? = some c→N.parts[k]? = some p→S14.right c p N.part=true
open Classical in
noncomputable def S14.checkNet(N:S14.N):Int:=if S14.check N.comps≠0 then S14.check N.comps else if N.parts.length≠N.comps.length∨N.ctxs.length≠16 then 6 else if S14.has N.part 1 255=false then 2 else if S14.allRight N then 0 else 3
def zlF(c:S14.C):FuncId:=
 if c.kind=0 then 106 else if c.kind=1 then 118 else if c.kind=2 then 147 else if c.kind=3 then 163 else if c.kind=4 then 192 else if c.kind=5 then 200 else 220
def zfP(N:S14.N)(L:NLay)(w:World):Prop:=
 ∀(k:Nat) (c:S14.C) (p:S14.P) (y:Lay),N.comps[k]? = some c→S14.ok c (k:Int)=true→N.parts[k]? = some p→L.ys[k]? = some y→∀W,Below w.heap.size w W→
  Calls Tryz.prog (zlF c) #[CV c,PV p y,.int .i64 N.part] W fun e w'=>e = .returned (.bool (S14.right c p N.part))∧Below W.heap.size W w'
theorem zjN(v:Value)(w:World):(nilAhead 371 111 v "compactor/network.right").run Tryz.prog w = .ok (some false) w:=by kernel_rfl
theorem zkG(v:Value)(w:World):(method 371 111 v "compactor/network.right").run Tryz.prog w = .ok (106,v) w:=by kernel_rfl
theorem zmJ(v:Value)(w:World):(nilAhead 371 112 v "compactor/network.right").run Tryz.prog w = .ok (some false) w:=by kernel_rfl
theorem znR(v:Value)(w:World):(method 371 112 v "compactor/network.right").run Tryz.prog w = .ok (118,v) w:=by kernel_rfl
theorem zkV(v:Value)(w:World):(nilAhead 371 113 v "compactor/network.right").run Tryz.prog w = .ok (some false) w:=by kernel_rfl
theorem zlR(v:Value)(w:World):(method 371 113 v "compactor/network.right").run Tryz.prog w = .ok (147,v) w:=by kernel_rfl
theorem zkU(v:Value)(w:World):(nilAhead 371 114 v "compactor/network.right").run Tryz.prog w = .ok (some false) w:=by kernel_rfl
theorem zlQ(v:Value)(w:World):(method 371 114 v "compactor/network.right").run Tryz.prog w = .ok (163,v) w:=by kernel_rfl
theorem zkW(v:Value)(w:World):(nilAhead 371 115 v "compactor/network.right").run Tryz.prog w = .ok (some false) w:=by kernel_rfl
theorem zlS(v:Value)(w:World):(method 371 115 v "compactor/network.right").run Tryz.prog w = .ok (192,v) w:=by kernel_rfl
theorem znX(v:Value)(w:World):(nilAhead 371 116 v "compactor/network.right").run Tryz.prog w = .ok (some false) w:=by kernel_rfl
theorem zpK(v:Value)(w:World):(method 371 116 v "compactor/network.right").run Tryz.prog w = .ok (200,v) w:=by kernel_rfl
theorem zkT(v:Value)(w:World):(nilAhead 371 117 v "compactor/network.right").run Tryz.prog w = .ok (some false) w:=by kernel_rfl
theorem zlP(v:Value)(w:World):(method 371 117 v "compactor/network.right").run Tryz.prog w = .ok (220,v) w:=by kernel_rfl
theorem S14.check_zero_N{l:List S14.C}(h:S14.check l=0):1≤l.length∧l.length≤16∧∀(k:Nat) (x:S14.C),l[k]? = some x→S14.ok x (k:Int)=true:=by
 unfold S14.check at h;split at h
 ·cases h
 ·split at h
  ·rename_i h1 h2
   exact⟨by omega,by omega,(S14.allOk_iff l).1 h2⟩
  ·cases h
theorem zjA(N:S14.N)(L:NLay)(w:World)(hN:NIs N L w)(hl1:N.comps.length≤4611686018427387904)(HR:zfP N L w) :
 Calls Tryz.prog 47 #[NV N L] w fun e w'=>e = .returned (.int .i64 (S14.checkNet N))∧Below w.heap.size w w':=by
 have B0:Below w.heap.size w (w.alloc (.cells (zdN N L).toArray 40)):=(zF _ _).alloc (zD _) _;have HC:=zB fun(W:World) (hW:Below w.heap.size w W)=>zqL N.comps L.a1 L.c1 W hl1 (hN.rc.step hW);have HBw:=zB fun W=>zbA N.part 1 255 W;have HN:=zB hN;have HRH:=zB HR;have HO:=zB fun(x:S14.C) W=>(show Calls Tryz.prog 26 #[.agg #[.int .i64 x.kind,.int .i64 x.bits,.int .i64 x.limit,.int .i64 x.rate,.int .i64 x.first,.int .i64 x.second]] W _ from ziL x W);obtain⟨R,hR⟩:∃R,S14.checkNet N=R:=⟨_,rfl⟩;rw[hR];unfold S14.checkNet at hR;have HZ:=zB (fun h=>S14.check_zero_N (l:=N.comps) h);obtain⟨E,hE⟩:∃E,S14.check N.comps=E:=⟨_,rfl⟩;rw[hE]at hR HC HZ;obtain⟨inr,hinr⟩:∃b,S14.has N.part 1 255=b:=⟨_,rfl⟩;rw[hinr]at hR HBw;unfold NV zdN at *;obtain⟨nc,hnc⟩:∃n,N.comps.length=n:=⟨_,rfl⟩;obtain⟨np,hnp⟩:∃n,N.parts.length=n:=⟨_,rfl⟩;obtain⟨nx,hnx⟩:∃n,N.ctxs.length=n:=⟨_,rfl⟩;obtain⟨pt,hpt⟩:∃n,N.part=n:=⟨_,rfl⟩;rw[hnc,hnp,hnx]at hR;rw[hnc]at HZ HC;rw[hnc,hnp,hnx,hpt]at B0;rw[hpt]at HBw;rw[hnc,hnp,hnx,hpt];have Hnc:=zB hnc;have Hnp:=zB hnp;have Hpt:=zB hpt;clear hnc hnp hnx hpt hN HR hE hinr hl1;obtain⟨W0,hW0⟩:∃W0,w.alloc (.cells #[.slice L.a1 nc L.c1,.slice L.a2 np L.c2,.slice L.a3 nx L.c3,.int .i64 pt] 40)=W0:=⟨_,rfl⟩;have k0:Blk W0 w.heap.size [.slice L.a1 nc L.c1,.slice L.a2 np L.c2,.slice L.a3 nx L.c3,.int .i64 pt] 40:=by rw[←hW0];exact Blk.new w _ _
 rw[show([.slice L.a1 nc L.c1,.slice L.a2 np L.c2,.slice L.a3 nx L.c3,.int .i64 pt]:List Value).toArray = #[.slice L.a1 nc L.c1,.slice L.a2 np L.c2,.slice L.a3 nx L.c3,.int .i64 pt]from rfl,hW0]at B0;have HC0:=zB (HC.out W0 B0);clear HC;by_cases hE0:E=0
 ·subst hE0;obtain⟨h1c,h16c,hok⟩:=HZ.out rfl;have Hok:=zB hok;rw[zG (by simp)]at hR;clear HZ hok;by_cases hnp:np=nc
  ·by_cases hnx:nx=16
   ·rw[zG (by omega)]at hR;have e1:((np:Int) != (nc:Int))=false:=by simp[hnp]
    have e2:((nx:Int) != 16)=false:=by simp[hnx]
    have Hnp2:=zB hnp;clear hnp hnx;cases inr with
    | false=>
      rw[zO rfl]at hR;subst hR;have c0:=k0.cell 0;have c1:=k0.cell 1;have c2:=k0.cell 2;have c3:=k0.cell 3;simp only[zuK]at c0 c1 c2 c3;go_enter Tryz.func47,Tryz.ntmps47;go_wp2_with (rw[hW0]);refine HC0.out.mono ?_;rintro e w1 ⟨rfl,hb1⟩;have k1:=k0.step hb1;have B1:=zA B0 hb1;clear c0 c1 c2 c3 k0;have k0:=k1;have c0:=k0.cell 0;have c1:=k0.cell 1;have c2:=k0.cell 2;have c3:=k0.cell 3;simp only[zuK]at c0 c1 c2 c3;go_wp2_with fail;refine(HBw.out _).mono ?_;rintro e w2 ⟨rfl,hb2⟩;have B2:=zA B1 hb2;go_wp2;go_returns;exact⟨rfl,B2⟩
    | true=>
      rw[zG (by simp)]at hR;have HR2:=zB hR;clear hR;have c0:=k0.cell 0;have c1:=k0.cell 1;have c2:=k0.cell 2;have c3:=k0.cell 3;simp only[zuK]at c0 c1 c2 c3;go_enter Tryz.func47,Tryz.ntmps47;go_wp2_with (rw[hW0]);refine HC0.out.mono ?_;rintro e w1 ⟨rfl,hb1⟩;have k1:=k0.step hb1;have B1:=zA B0 hb1;clear c0 c1 c2 c3 k0;have k0:=k1;have c0:=k0.cell 0;have c1:=k0.cell 1;have c2:=k0.cell 2;have c3:=k0.cell 3;simp only[zuK]at c0 c1 c2 c3;go_wp2_with fail;refine(HBw.out _).mono ?_;rintro e w2 ⟨rfl,hb2⟩;have k2:=k1.step hb2;have B2:=zA B1 hb2;clear c0 c1 c2 c3 k0;have k0:=k2;have c0:=k0.cell 0;have c1:=k0.cell 1;have c2:=k0.cell 2;have c3:=k0.cell 3;simp only[zuK]at c0 c1 c2 c3;go_wp2_with fail;clear c0 c1 c2 c3 k0 e1 e2
      go_loopw [34] (fun i wr=>∃(k:Nat),k≤nc∧i = .int .i64 (k:Int)∧Hid (∀(j:Nat) (c:S14.C) (p:S14.P),j<k→N.comps[j]? = some c→N.parts[j]? = some p→S14.right c p pt=true)∧
       Blk wr w.heap.size [.slice L.a1 nc L.c1,.slice L.a2 np L.c2,.slice L.a3 nx L.c3,.int .i64 pt] 40∧Below w.heap.size w wr) (fun i _=>nc-(intOf i).toNat)
      case atStart=>exact⟨0,by omega,rfl,zB (fun j c p hj=>by omega),k2,B2⟩
      case round=>
       clear k1 k2 B1 B2;obtain⟨k,hk,rfl,hall,k0,hB⟩:=hrel;by_cases hlt:k<nc
       ·have hkz:(k:Int)<(nc:Int):=by omega
        have hkz2:(k:Int)<(np:Int):=by have:=Hnp2.out;omega
        obtain⟨x,hx⟩:∃x,N.comps[k]? = some x:=⟨_,zE (by have:=Hnc.out;omega)⟩;obtain⟨g,o,hga,x0,x1,x2,x3,x4,x5⟩:=(HN.out.step hB).comp_at hx;obtain⟨g2,o2,p,y,hga2,hp,hy,hrgP,hPI⟩:=HN.out.part_at (k:=k) (by have:=Hnp.out;have:=Hnp2.out;omega);have Hx:=zB hx;have Hp:=zB hp;have hokx:=Hok.out k x hx;have hkd:=(S14.ok_is hokx).kind;have hX2:=fun(W:World) (hW:Below w.heap.size w W)=>HRH.out k x p y hx hokx hp hy W hW;obtain⟨q,hq⟩:∃q,S14.right x p N.part=q:=⟨_,rfl⟩;rw[hq,Hpt.out]at hX2;rw[Hpt.out]at hq;have Hq:=zB hq
        have HBad:=zB (fun(x':S14.C) (h1:N.comps[k]? = some x') (h2:N.parts[k]? = some p) (h3:S14.right x p pt=false)=>(show R=3 by
         rw[←HR2.out];refine zG (fun hA=> ?_);have:=hA k x p hx hp;rw[Hpt.out,h3]at this;cases this))
        rw[hga2]at k0⊢;rw[hga]at k0⊢;unfold PV at hX2;have hi16:some 16=some (yL p y).length:=rfl;obtain⟨PQ,hPQ⟩:∃PQ,yL p y=PQ:=⟨_,rfl⟩;rw[hPQ]at hX2 hrgP hi16;obtain⟨W5,hW5⟩:∃W5,wr.alloc (.cells #[.int .i64 x.kind,.int .i64 x.bits,.int .i64 x.limit,.int .i64 x.rate,.int .i64 x.first,.int .i64 x.second] 37)=W5:=⟨_,rfl⟩;obtain⟨Q,hQ⟩:∃Q,wr.heap.size=Q:=⟨_,rfl⟩;have kQ:Blk W5 Q [.int .i64 x.kind,.int .i64 x.bits,.int .i64 x.limit,.int .i64 x.rate,.int .i64 x.first,.int .i64 x.second] 37:=by rw[←hW5,←hQ];exact Blk.new wr _ _
        have hb5:Below wr.heap.size wr W5:=by rw[←hW5];exact(zF _ _).alloc (zD _) _
        have k05:=k0.step hb5;have B5:=zA hB hb5;have hrp:=fun(W:World) (hW:Below W5.heap.size W5 W)=>zcD hrgP (zA B5 hW);have hCS:Cells W5 [(⟨Q,0,none⟩,.int .i64 x.kind),(⟨Q,1,none⟩,.int .i64 x.bits),(⟨Q,2,none⟩,.int .i64 x.limit),(⟨Q,3,none⟩,.int .i64 x.rate),(⟨Q,4,none⟩,.int .i64 x.first),(⟨Q,5,none⟩,.int .i64 x.second),(⟨w.heap.size,1,none⟩,.slice (some ⟨g2,o2,none⟩) np L.c2),(⟨w.heap.size,3,none⟩,.int .i64 pt)]:=⟨kQ.cell 0,kQ.cell 1,kQ.cell 2,kQ.cell 3,kQ.cell 4,kQ.cell 5,k05.cell 1,k05.cell 3,yF⟩;have hX4:=fun(W:World) (hW:Below W5.heap.size W5 W)=>hX2 W (zA B5 hW);have c00:=k0.cell 0;simp only[lgz]at c00;clear hb5 k0 hX2 hPQ hx hp hy hq hrgP hPI;go_wp2_with (first|(rw[hW5,hQ])|(rw[hW5])|fail);unfold CV zZ zlF at hX4;obtain⟨TT,FF,hof,hX3,hen,hme,hah⟩:∃(TT:TypeId) (FF:FuncId),OfV x = .iface TT (.agg #[.int .i64 x.kind,.int .i64 x.bits,.int .i64 x.limit,.int .i64 x.rate,.int .i64 x.first,.int .i64 x.second])∧(∀W,Below W5.heap.size W5 W→Calls Tryz.prog FF #[.agg #[.int .i64 x.kind,.int .i64 x.bits,.int .i64 x.limit,.int .i64 x.rate,.int .i64 x.first,.int .i64 x.second],.agg PQ.toArray,.int .i64 pt] W fun e w'=>e = .returned (.bool q)∧Below W.heap.size W w')∧(∀args w,(callFunc FF args).run Tryz.prog w = .ok (.enter FF args) w)∧(∀w,(method 371 TT (.agg #[.int .i64 x.kind,.int .i64 x.bits,.int .i64 x.limit,.int .i64 x.rate,.int .i64 x.first,.int .i64 x.second]) "compactor/network.right").run Tryz.prog w = .ok (FF,(.agg #[.int .i64 x.kind,.int .i64 x.bits,.int .i64 x.limit,.int .i64 x.rate,.int .i64 x.first,.int .i64 x.second])) w)∧(∀w,(nilAhead 371 TT (.agg #[.int .i64 x.kind,.int .i64 x.bits,.int .i64 x.limit,.int .i64 x.rate,.int .i64 x.first,.int .i64 x.second]) "compactor/network.right").run Tryz.prog w = .ok (some false) w):=by
         by_cases k0:x.kind=0
         ·refine⟨111,106,?_,?_,enters_of Tryz.func106 (by kernel_rfl) rfl,zkG _,zjN _⟩
          ·unfold OfV CV zZ;simp only[k0];rfl
          ·intro W hW;have:=hX4 W hW;simp only[k0]at this⊢;exact this
         by_cases k1:x.kind=1
         ·refine⟨112,118,?_,?_,enters_of Tryz.func118 (by kernel_rfl) rfl,znR _,zmJ _⟩
          ·unfold OfV CV zZ;simp only[k1];rfl
          ·intro W hW;have:=hX4 W hW;simp only[k1]at this⊢;exact this
         by_cases k2:x.kind=2
         ·refine⟨113,147,?_,?_,enters_of Tryz.func147 (by kernel_rfl) rfl,zlR _,zkV _⟩
          ·unfold OfV CV zZ;simp only[k2];rfl
          ·intro W hW;have:=hX4 W hW;simp only[k2]at this⊢;exact this
         by_cases k3:x.kind=3
         ·refine⟨114,163,?_,?_,enters_of Tryz.func163 (by kernel_rfl) rfl,zlQ _,zkU _⟩
          ·unfold OfV CV zZ;simp only[k3];rfl
          ·intro W hW;have:=hX4 W hW;simp only[k3]at this⊢;exact this
         by_cases k4:x.kind=4
         ·refine⟨115,192,?_,?_,enters_of Tryz.func192 (by kernel_rfl) rfl,zlS _,zkW _⟩
          ·unfold OfV CV zZ;simp only[k4];rfl
          ·intro W hW;have:=hX4 W hW;simp only[k4]at this⊢;exact this
         by_cases k5:x.kind=5
         ·refine⟨116,200,?_,?_,enters_of Tryz.func200 (by kernel_rfl) rfl,zpK _,znX _⟩
          ·unfold OfV CV zZ;simp only[k5];rfl
          ·intro W hW;have:=hX4 W hW;simp only[k5]at this⊢;exact this
         by_cases k6:x.kind=6
         ·refine⟨117,220,?_,?_,enters_of Tryz.func220 (by kernel_rfl) rfl,zlP _,zkT _⟩
          ·unfold OfV CV zZ;simp only[k6];rfl
          ·intro W hW;have:=hX4 W hW;simp only[k6]at this⊢;exact this
         omega
        have HX:=zB hX3;clear hX4 hX3 hkd;go_wp2_with fail;refine zuL 14 0 [(U,[U,zuH,U,U,U,U,U,U,U]),(zuH,[zuH,U]),(U,[zuH,zuH,zuH,zuH,zuH,zuH,zuH,zuH,zuH,U,U,U]),(zuH,[zuH,zuH,zuH,zuH,zuH,zuH,zuH,zuH,zuH,zuH,zuH,zuH,U]),(U,[zuH,zuH,zuH,zuH,zuH,zuH,zuH,zuH,zuH,zuH,zuH,zuH,zuH,U])] (Keeps W5 [(⟨Q,0,none⟩,.int .i64 x.kind),(⟨Q,1,none⟩,.int .i64 x.bits),(⟨Q,2,none⟩,.int .i64 x.limit),(⟨Q,3,none⟩,.int .i64 x.rate),(⟨Q,4,none⟩,.int .i64 x.first),(⟨Q,5,none⟩,.int .i64 x.second),(⟨w.heap.size,1,none⟩,.slice (some ⟨g2,o2,none⟩) np L.c2),(⟨w.heap.size,3,none⟩,.int .i64 pt)]) (by kernel_rfl) (Keeps.start hCS) (fun Y Q4 F4 hY hF=> ?_);simp only[zuJ]
        repeat
         apply zJ (by rw[hY];rfl)
         ·intro w2 hS2;(try simp only[Keeps,Cells]at hS2);go_simp;with_reducible rfl
         simp only[zuI]
        repeat
         first
          | (apply zJ (by rw[hY];rfl)
             ·intro w2 hS2;exact exec_loadM 78 (.tmp 44) (by rfl) g2 (o2+k*16) (by rfl) PQ (hrp w2 hS2.1) _ Tryz.underlying78 rfl (info_P.trans hi16)
             simp only[zuI])
          | (apply zJ (by rw[hY];rfl)
             ·intro w2 hS2;(try simp only[Keeps,Cells]at hS2);go_simp;with_reducible rfl
             simp only[zuI])
        apply zR (by rw[hY];rfl)
        ·go_simp;with_reducible exact⟨rfl,rfl⟩
        refine(HO.out x _).mono ?_;rintro e w6 ⟨rfl,hb6⟩;have hk6:=(Keeps.start hCS).step hb6;refine⟨_,rfl,hk6,?_⟩;simp only[zuI];rw[hof]
        repeat
         apply zJ (by rw[hY];rfl)
         ·intro w2 hS2;(try simp only[Keeps,Cells]at hS2);go_simp;with_reducible rfl
         simp only[zuI]
        apply zR (by rw[hY];rfl)
        ·go_simp;first|with_reducible exact⟨rfl,rfl⟩|with_reducible rfl
        refine(HX.out w6 hk6.1).mono ?_;rintro e w7 ⟨rfl,hb7⟩;have hk7:=hk6.step hb7;refine⟨_,rfl,hk7,?_⟩;simp only[zuI]
        repeat
         apply zJ (by rw[hY];rfl)
         ·intro w2 hS2;(try simp only[Keeps,Cells]at hS2);go_simp;with_reducible rfl
         simp only[zuI]
        refine yE (hF.out _ _ (fun K hK=> ?_));clear hF hY;refine OnlyK.mk (hK.out _ _ ?_);clear hK;have B7:=zA B5 hk7.1;have k07:=k05.step hk7.1;cases q with
        | false=>
          obtain rfl:=HBad.out x Hx.out Hp.out Hq.out;go_wp2;go_returns;exact⟨rfl,B7⟩
        | true=>
          go_wp2;go_roundw
          case rel=>
           refine⟨k+1,by omega,by simp,zB (fun j c' p' hj h1 h2=> ?_),k07,B7⟩;rcases Nat.lt_succ_iff_lt_or_eq.1 hj with h|rfl
           ·exact hall.out j c' p' h h1 h2
           ·have e1:=Hx.out;rw[h1]at e1;cases e1;have e2:=Hp.out;rw[h2]at e2;cases e2;exact Hq.out
          case measure=>simp[intOf];omega
       ·obtain rfl:k=nc:=by omega
        have hR0:R=0:=by
         rw[←HR2.out];refine zO (fun j c p h1 h2=> ?_);rw[Hpt.out];exact hall.out j c p (by have:=(List.getElem?_eq_some_iff.1 h1).1;have:=Hnc.out;omega) h1 h2
        subst hR0;go_wp2;go_returns;exact⟨rfl,hB⟩
   ·rw[zO (.inr hnx)]at hR;subst hR;have e1:((np:Int) != (nc:Int))=false:=by simp[hnp]
    have e2:((nx:Int) != 16)=true:=by simp;omega
    clear hnp hnx;have c0:=k0.cell 0;have c1:=k0.cell 1;have c2:=k0.cell 2;have c3:=k0.cell 3;simp only[zuK]at c0 c1 c2 c3;go_enter Tryz.func47,Tryz.ntmps47;go_wp2_with (rw[hW0]);refine HC0.out.mono ?_;rintro e w1 ⟨rfl,hb1⟩;have k1:=k0.step hb1;have B1:=zA B0 hb1;clear c0 c1 c2 c3 k0;have k0:=k1;have c0:=k0.cell 0;have c1:=k0.cell 1;have c2:=k0.cell 2;have c3:=k0.cell 3;simp only[zuK]at c0 c1 c2 c3;go_wp2;go_returns;exact⟨rfl,B1⟩
  ·rw[zO (.inl hnp)]at hR;subst hR;have e1:((np:Int) != (nc:Int))=true:=by simp;omega
   clear hnp;have c0:=k0.cell 0;have c1:=k0.cell 1;have c2:=k0.cell 2;have c3:=k0.cell 3;simp only[zuK]at c0 c1 c2 c3;go_enter Tryz.func47,Tryz.ntmps47;go_wp2_with (rw[hW0]);refine HC0.out.mono ?_;rintro e w1 ⟨rfl,hb1⟩;have k1:=k0.step hb1;have B1:=zA B0 hb1;clear c0 c1 c2 c3 k0;have k0:=k1;have c0:=k0.cell 0;have c1:=k0.cell 1;have c2:=k0.cell 2;have c3:=k0.cell 3;simp only[zuK]at c0 c1 c2 c3;go_wp2;go_returns;exact⟨rfl,B1⟩
 ·rw[zO hE0]at hR;subst hR;have e0:(E != 0)=true:=by simp[hE0]
  clear hE0;have c0:=k0.cell 0;have c1:=k0.cell 1;have c2:=k0.cell 2;have c3:=k0.cell 3;simp only[zuK]at c0 c1 c2 c3;go_enter Tryz.func47,Tryz.ntmps47;go_wp2_with (rw[hW0]);refine HC0.out.mono ?_;rintro e w1 ⟨rfl,hb1⟩;have B1:=zA B0 hb1;go_wp2;go_returns;exact⟨rfl,B1⟩
def zN:Array Value:=#[.slice none 0 0,.slice none 0 0,.slice none 0 0,.int .i64 0]
theorem info_N:(Tryz.prog.info? 40).map (·.size)=some 4:=by kernel_rfl
def OwnP(w:World)(base:Nat)(a:Option Addr)(c:Nat)(ps:List S14.P)(ys:List Lay):Prop:=w.ownsRow base 78 16 (.slice a ps.length c) ps.length (PCs ps ys)
theorem zfV{w w':World}{base:Nat}{e:TypeId}{size n:Nat}{v:Value}{xs:List Value}{b:Nat}(h:w.ownsRow base e size v n xs)(hg:w.grownBy w' (some b))(hb:b<base):w'.ownsRow base e size v n xs:=by
 refine⟨h.1,?_⟩;rcases h.2 with h'|⟨g,cap',cur,h',hb',hg',r⟩
 ·exact .inl h'
 ·exact .inr ⟨g,cap',cur,h',hb',(hg.block g (Array.getElem?_eq_some_iff.1 hg').1 (fun e=>by have:=zK e;omega)).trans hg',r⟩
theorem zcZ{w:World}{B B':Nat}{e:TypeId}{size n:Nat}{v:Value}{xs:List Value}(h:w.ownsRow B e size v n xs)(hb:B'≤B):w.ownsRow B' e size v n xs:=by
 refine⟨h.1,?_⟩;rcases h.2 with h'|⟨g,cap',cur,h',hb',r⟩
 ·exact .inl h'
 ·exact .inr ⟨g,cap',cur,h',yC hb hb',r⟩
theorem zbO(w:World)(b i:Nat)(v:Value):w.grownBy (w.setCell ⟨b,i,none⟩ v) (some b):=
 ⟨rfl,rfl,rfl,by simp,fun j _ hne=>heap_setCell_other w ⟨b,i,none⟩ j v (fun e=>hne (by rw[e]))⟩
theorem znL(N:S14.N)(L:NLay)(w:World)(hN:NIs N L w)(h1:1≤N.comps.length∧N.comps.length≤16)(h2:N.parts.length=N.comps.length)(h3:N.ctxs.length=16) :
 Calls Tryz.prog 38 #[NV N L] w fun e w'=>∃a1 c1 a2 c2 a3 c3,e = .returned (NV N ⟨a1,c1,a2,c2,a3,c3,L.ys⟩)∧w'.ownsRow w.heap.size 37 6 (.slice a1 N.comps.length c1) N.comps.length (zhK N.comps)∧
  OwnP w' w.heap.size a2 c2 N.parts L.ys∧w'.ownsRow w.heap.size 44 1 (.slice a3 N.ctxs.length c3) N.ctxs.length (zhJ N.ctxs)∧Below w.heap.size w w':=by
 obtain⟨g1,o1,ha1,_⟩:=hN.rc (fun e=>by have h:=yS List.length e;rw[zbB,List.length_nil]at h;omega);obtain⟨g2,o2,ha2,_⟩:=hN.rp (fun e=>by have h:=yS List.length e;rw[zgQ _ _ hN.ly,List.length_nil]at h;omega);obtain⟨g3,o3,ha3,_⟩:=hN.rx (fun e=>by have h:=yS List.length e;rw[zcH,List.length_nil]at h;omega);have r1:=hN.rc;have r2:=hN.rp;have r3:=hN.rx;have hly:=zgQ _ _ hN.ly;rw[ha1]at r1;rw[ha2]at r2;rw[ha3]at r3;have H1:=zB fun(W:World) (hW:Below w.heap.size w W)=>znM (zhK N.comps) N.comps.length (by rw[zbB,zdL]) (Cs14_one _) g1 o1 L.c1 W h1.1 (by omega) (r1.step hW);have H2:=zB fun(W:World) (hW:Below w.heap.size w W)=>cloneParts14 (PCs N.parts L.ys) N.parts.length (by rw[hly,zdL]) (PCs_one _ _) g2 o2 L.c2 W (by omega) (by omega) (r2.step hW);have H3:=zB fun(W:World) (hW:Below w.heap.size w W)=>zqK (zhJ N.ctxs) N.ctxs.length (by rw[zcH,zaO]) (zuC _) g3 o3 L.c3 W (by omega) (by omega) (r3.step hW);unfold NV zdN OwnP;simp only;rw[ha1,ha2,ha3];obtain⟨V1,hV1⟩:∃v,zhK N.comps=v:=⟨_,rfl⟩;obtain⟨V2,hV2⟩:∃v,PCs N.parts L.ys=v:=⟨_,rfl⟩;obtain⟨V3,hV3⟩:∃v,zhJ N.ctxs=v:=⟨_,rfl⟩;obtain⟨nc,hnc⟩:∃n,N.comps.length=n:=⟨_,rfl⟩;obtain⟨np,hnp⟩:∃n,N.parts.length=n:=⟨_,rfl⟩;obtain⟨nx,hnx⟩:∃n,N.ctxs.length=n:=⟨_,rfl⟩;obtain⟨pt,hpt⟩:∃n,N.part=n:=⟨_,rfl⟩;rw[hV1,hnc]at H1;rw[hV2,hnp]at H2;rw[hV3,hnx]at H3;rw[hV1,hV2,hV3,hnc,hnp,hnx,hpt];clear hN r1 r2 r3 hV1 hV2 hV3 hnc hnp hnx hpt h1 h2 h3 hly ha1 ha2 ha3;obtain⟨W1,hW1⟩:∃W1,(w.alloc (.cells #[.slice (some ⟨g1,o1,none⟩) nc L.c1,.slice (some ⟨g2,o2,none⟩) np L.c2,.slice (some ⟨g3,o3,none⟩) nx L.c3,.int .i64 pt] 40)).alloc (.cells zN 40)=W1:=⟨_,rfl⟩;have k1:Blk W1 w.heap.size [.slice (some ⟨g1,o1,none⟩) nc L.c1,.slice (some ⟨g2,o2,none⟩) np L.c2,.slice (some ⟨g3,o3,none⟩) nx L.c3,.int .i64 pt] 40:=by rw[←hW1];exact(Blk.new w _ _).alloc _
 have k2:Blk W1 (w.heap.size+1) [.slice none 0 0,.slice none 0 0,.slice none 0 0,.int .i64 0] 40:=by
  rw[←hW1];have h:=Blk.new (w.alloc (.cells #[.slice (some ⟨g1,o1,none⟩) nc L.c1,.slice (some ⟨g2,o2,none⟩) np L.c2,.slice (some ⟨g3,o3,none⟩) nx L.c3,.int .i64 pt] 40)) [.slice none 0 0,.slice none 0 0,.slice none 0 0,.int .i64 0] 40;rwa[zV]at h
 have B1:Below w.heap.size w W1:=by rw[←hW1];exact((zF _ _).alloc (zD _) _).alloc (by simp) _
 have hz1:=k2.lt;unfold zN at hW1;have hCS:Cells W1 [(⟨w.heap.size,0,none⟩,.slice (some ⟨g1,o1,none⟩) nc L.c1),(⟨w.heap.size,1,none⟩,.slice (some ⟨g2,o2,none⟩) np L.c2),(⟨w.heap.size,2,none⟩,.slice (some ⟨g3,o3,none⟩) nx L.c3)]:=⟨k1.cell 0,k1.cell 1,k1.cell 2,yF⟩;go_enter Tryz.func38,Tryz.ntmps38;go_wp2_with (rw[hW1]);refine zbU 10 5 (.read 0 (.read 1 (.read 3 (.read 4 (.read 6 (.read 7 (.one 2 (.read 9 (.one 5 (.one 8 .done)))))))))) _ _ o0P (Keeps W1 [(⟨w.heap.size,0,none⟩,.slice (some ⟨g1,o1,none⟩) nc L.c1),(⟨w.heap.size,1,none⟩,.slice (some ⟨g2,o2,none⟩) np L.c2),(⟨w.heap.size,2,none⟩,.slice (some ⟨g3,o3,none⟩) nx L.c3)]) (by kernel_rfl) (yB 10 _).symm (by kernel_rfl) (by kernel_rfl) (by kernel_rfl) (by kernel_rfl) (Keeps.start hCS) (fun Y Q4 F4 hY hF=> ?_);simp only[Plan.map,ltc,ltz,ldc,ldz,List.getD_cons_zero,List.getD_cons_succ]
 repeat
  apply zU (by rw[hY];rfl)
  ·intro w2 hS2;(try simp only[Keeps,Cells]at hS2);go_simp;with_reducible rfl
  simp only[zuI]
 apply yH (by rw[hY];rfl)
 ·go_simp;with_reducible exact⟨rfl,rfl⟩
 refine(H1.out _ (zA B1 (Keeps.start hCS).1)).mono ?_;rintro e w2 ⟨a1,c1,rfl,own1,hb2⟩;have hk2:=(Keeps.start hCS).step hb2;refine⟨_,rfl,hk2,?_⟩;simp only[zuI]
 repeat
  apply zU (by rw[hY];rfl)
  ·intro w2 hS2;(try simp only[Keeps,Cells]at hS2);go_simp;with_reducible rfl
  simp only[zuI]
 apply yH (by rw[hY];rfl)
 ·go_simp;with_reducible exact⟨rfl,rfl⟩
 refine(H2.out _ (zA B1 hk2.1)).mono ?_;rintro e w3 ⟨a2,c2,rfl,own2,hb3⟩;have hk3:=hk2.step hb3;refine⟨_,rfl,hk3,?_⟩;simp only[zuI];apply yH (by rw[hY];rfl)
 ·go_simp;with_reducible exact⟨rfl,rfl⟩
 refine(H3.out _ (zA B1 hk3.1)).mono ?_;rintro e w4 ⟨a3,c3,rfl,own3,hb4⟩;have hk4:=hk3.step hb4;refine⟨_,rfl,hk4,?_⟩;simp only[zuI];refine yY (hF.out _ _ (fun K hK=> ?_));clear hF hY;have z4:=hk4.1.size;have z3:=hk3.1.size;have z2:=hk2.1.size;have hd4:w.heap.size+1<W1.heap.size:=hz1;have hdd:W1.drew.heap.size=W1.heap.size:=rfl;have p1:=yX (B:=0) (yX (B:=0) own1 hb3) hb4;have p2:=yX (B:=0) own2 hb4;have p3:=own3;have B4:=zA B1 hk4.1;have kn:=k1.step hk4.1;have kr:=k2.step hk4.1;clear hk2 hk3 hk4 own1 own2 own3 hb2 hb3 hb4 hCS k1 k2;have s1:=((kn.set 0 (.slice a1 nc c1)).set 1 (.slice a2 np c2)).set 2 (.slice a3 nx c3);have f0:=kn.cell 0;have f0f:=kn.free 0;have f1:=(kn.set 0 (.slice a1 nc c1)).cell 1;have f1f:=(kn.set 0 (.slice a1 nc c1)).free 1;have f2:=((kn.set 0 (.slice a1 nc c1)).set 1 (.slice a2 np c2)).cell 2;have f2f:=((kn.set 0 (.slice a1 nc c1)).set 1 (.slice a2 np c2)).free 2;simp only[sC0,sCs,lgz,lgs]at s1 f0 f1 f2;have kr1:=((kr.other w.heap.size 0 (.slice a1 nc c1) (by omega)).other w.heap.size 1 (.slice a2 np c2) (by omega)).other w.heap.size 2 (.slice a3 nx c3) (by omega)
 have B5:Below w.heap.size w (((w4.setCell ⟨w.heap.size,0,none⟩ (.slice a1 nc c1)).setCell ⟨w.heap.size,1,none⟩ (.slice a2 np c2)).setCell ⟨w.heap.size,2,none⟩ (.slice a3 nx c3)):=
  ((B4.setCell (p:=⟨w.heap.size,0,none⟩) (by simp) _).setCell (p:=⟨w.heap.size,1,none⟩) (by simp) _).setCell (p:=⟨w.heap.size,2,none⟩) (by simp) _
 have step3:∀{base:Nat} {e:TypeId} {size n:Nat} {v:Value} {xs:List Value},w4.ownsRow base e size v n xs→w.heap.size<base→(((w4.setCell ⟨w.heap.size,0,none⟩ (.slice a1 nc c1)).setCell ⟨w.heap.size,1,none⟩ (.slice a2 np c2)).setCell ⟨w.heap.size,2,none⟩ (.slice a3 nx c3)).ownsRow base e size v n xs:=fun h hb=>
  zfV (zfV (zfV h (zbO _ _ _ _) hb) (zbO _ _ _ _) hb) (zbO _ _ _ _) hb
 have P1:=zB (step3 p1 (by omega));have P2:=zB (step3 p2 (by omega));have P3:=zB (step3 p3 (by omega));clear p1 p2 p3 step3;go_wp2_with fail;refine OnlyK.mk (hK.out _ _ ?_);clear hK;obtain⟨w5,hw5⟩:∃w5,((w4.setCell ⟨w.heap.size,0,none⟩ (.slice a1 nc c1)).setCell ⟨w.heap.size,1,none⟩ (.slice a2 np c2)).setCell ⟨w.heap.size,2,none⟩ (.slice a3 nx c3)=w5:=⟨_,rfl⟩;rw[hw5]at s1 kr1 B5 P1 P2 P3⊢;clear hw5 f0 f0f f1 f1f f2 f2f kn kr;go_wp2_with (first
  | (refine yA 40 (.tmp 1) (by rfl) (by rfl) w.heap.size (by rfl) [.slice a1 nc c1,.slice a2 np c2,.slice a3 nx c3,.int .i64 pt] 40 s1 _ Tryz.underlying40 rfl info_N ?_)
  | (refine zT 40 (.tmp 2) (.tmp 15) (by rfl) (by rfl) (w.heap.size+1) (by rfl) [.slice a1 nc c1,.slice a2 np c2,.slice a3 nx c3,.int .i64 pt] (by rfl) _ 40 kr1 info_N rfl (by simp[Value.oneCell']) ?_;intro wL EL gL sL))
 have hL:=run_loadVar_mid wL _ 0 _ _ _ EL.cells Tryz.underlying40 rfl info_N;refine bodyPost_ret (v:=.agg #[.slice a1 nc c1,.slice a2 np c2,.slice a3 nx c3,.int .i64 pt]) ?_ rfl ?_
 ·exact zbH (show Tryz.f38.results = #[.cell 2 40]from rfl) (p:=⟨w.heap.size+1,0,none⟩) rfl hL
 ·exact⟨a1,c1,a2,c2,a3,c3,rfl,zcZ (zfV P1.out gL (by omega)) (by omega),zcZ (zfV P2.out gL (by omega)) (by omega),zcZ (zfV P3.out gL (by omega)) (by omega),B5.trans (yG gL (by omega) B5.size)⟩
def zH:Value:=.agg #[.int .i64 0,.int .i64 0,.int .i64 0,.int .i64 0,.int .i64 0,.int .i64 0]
theorem znQ(v:Value)(w:World):(Instr.typeAssert (.iface 111 v) 80 113 true).run Tryz.prog w = .ok (.tuple #[zH,.bool false]) w:=by kernel_rfl
theorem zrI(v:Value)(w:World):(Instr.typeAssert (.iface 112 v) 80 113 true).run Tryz.prog w = .ok (.tuple #[zH,.bool false]) w:=by kernel_rfl
theorem zpI(v:Value)(w:World):(Instr.typeAssert (.iface 114 v) 80 113 true).run Tryz.prog w = .ok (.tuple #[zH,.bool false]) w:=by kernel_rfl
theorem zpJ(v:Value)(w:World):(Instr.typeAssert (.iface 115 v) 80 113 true).run Tryz.prog w = .ok (.tuple #[zH,.bool false]) w:=by kernel_rfl
theorem ztH(v:Value)(w:World):(Instr.typeAssert (.iface 116 v) 80 113 true).run Tryz.prog w = .ok (.tuple #[zH,.bool false]) w:=by kernel_rfl
theorem zpH(v:Value)(w:World):(Instr.typeAssert (.iface 117 v) 80 113 true).run Tryz.prog w = .ok (.tuple #[zH,.bool false]) w:=by kernel_rfl
theorem S14.checkNet_zero{N:S14.N}(h:S14.checkNet N=0):S14.check N.comps=0∧N.parts.length=N.comps.length∧N.ctxs.length=16∧1≤N.part∧N.part≤255∧S14.allRight N:=by
 unfold S14.checkNet at h;split at h
 ·rename_i hc;exact absurd h hc
 ·rename_i hc
  split at h
  ·cases h
  ·rename_i hl
   split at h
   ·cases h
   ·rename_i hp
    split at h
    ·rename_i hr
     have:=S14.has_iff.1 (by simpa using hp);exact⟨by simpa using hc,by omega,by omega,this.1,this.2,hr⟩
    ·cases h
theorem S14.kinds_of{l:List S14.C}(h:S14.check l=0):∀c∈l,0≤c.kind∧c.kind≤6:=fun c hc=>by
 obtain⟨k,hk⟩:=List.getElem?_of_mem hc;have:=(S14.ok_is ((S14.check_zero h).2.2 k c hk)).kind;omega
theorem zhV(N:S14.N)(L:NLay)(O:Nat→List Int→Int)(w:World)(hN:NIs N L w)(HR:zfP N L w)(h0:S14.checkNet N=0)(HK:zhE N L w O) :
 Calls Tryz.prog 29 #[NV N L] w fun e w'=>∃a cap,e = .returned (.tuple #[.slice a N.comps.length cap,.int .i64 0])∧Rd w' a (zaK (S14.outs O N.comps.length))∧(∀g o,a=some ⟨g,o,none⟩→w.heap.size≤g)∧N.comps.length≤cap∧Below w.heap.size w w':=by
 obtain⟨hck,hpl,hxl,_,_,_⟩:=S14.checkNet_zero h0;have hl:=(S14.check_zero hck).2.1;have hl1:N.comps.length≤4611686018427387904:=by omega
 obtain⟨W1,hW1⟩:∃W1,w.alloc (.cells (zdN N L).toArray 40)=W1:=⟨_,rfl⟩;have k1:Blk W1 w.heap.size (zdN N L) 40:=by rw[←hW1];exact Blk.new w _ _
 have B1:Below w.heap.size w W1:=by rw[←hW1];exact(zF _ _).alloc (zD _) _
 have HC:=zB (zjA N L W1 (hN.step B1) hl1 (fun k c p y h1 h2 h3 h4 W hW=>HR k c p y h1 h2 h3 h4 W (zA B1 hW)));rw[h0]at HC;have HO:=zB fun(W:World) (hW:Below w.heap.size w W)=>ztF N L O W (hN.step hW) hl (S14.kinds_of hck) (fun k c h bef a W' h1=>HK k c h bef a W' (zA hW h1));clear HR h0 hpl hxl hck hl1 HK;unfold NV zdN at HC HO⊢;unfold zdN at k1 hW1;obtain⟨nc,hnc⟩:∃n,N.comps.length=n:=⟨_,rfl⟩;obtain⟨np,hnp⟩:∃n,N.parts.length=n:=⟨_,rfl⟩;obtain⟨nx,hnx⟩:∃n,N.ctxs.length=n:=⟨_,rfl⟩;obtain⟨pt,hpt⟩:∃n,N.part=n:=⟨_,rfl⟩;rw[hnc,hnp,hnx,hpt]at HC HO k1 hW1;rw[hnc,hnp,hnx,hpt];clear hnp hnx hpt hN hl hnc;go_enter Tryz.func29,Tryz.ntmps29;go_wp2_with (first
  | (rw[hW1])
  | (refine yA 40 (.tmp 1) (by rfl) (by rfl) w.heap.size (by rfl) [.slice L.a1 nc L.c1,.slice L.a2 np L.c2,.slice L.a3 nx L.c3,.int .i64 pt] 40 k1 _ Tryz.underlying40 rfl info_N ?_))
 refine HC.out.mono ?_;rintro e w2 ⟨rfl,hb2⟩;have k2:=k1.step hb2;have B2:=zA B1 hb2;clear k1;go_wp2_with (first
  | (refine yA 40 (.tmp 1) (by rfl) (by rfl) w.heap.size (by rfl) [.slice L.a1 nc L.c1,.slice L.a2 np L.c2,.slice L.a3 nx L.c3,.int .i64 pt] 40 k2 _ Tryz.underlying40 rfl info_N ?_))
 refine(HO.out _ B2).mono ?_;rintro e w3 ⟨a,cap,rfl,hrd,hfar,hcap,hb3⟩;have B3:=zA B2 hb3;have hz:=B2.size;have Hrd:=zB hrd;have Hfar:=zB hfar;clear hrd hfar;go_wp2_with fail;go_returns;exact⟨a,cap,rfl,Hrd.out,fun g o e=>yC hz (Hfar.out g o e),hcap,B3⟩
theorem zrE(N:S14.N)(L:NLay)(O:Nat→List Int→Int)(w:World)(hN:NIs N L w)(HR:zfP N L w)(h0:S14.checkNet N=0)(HK:zhE N L w O) :
 Calls Tryz.prog 16 #[NV N L] w fun e w'=>e = .returned (.tuple #[.int .i64 (S06.squash ((S14.outs O N.comps.length).getD (N.comps.length-1) 0)),.int .i64 0])∧Below w.heap.size w w':=by
 obtain⟨hck,_⟩:=S14.checkNet_zero h0;obtain⟨hl0,hl,_⟩:=S14.check_zero hck;obtain⟨W1,hW1⟩:∃W1,w.alloc (.cells (zdN N L).toArray 40)=W1:=⟨_,rfl⟩;have k1:Blk W1 w.heap.size (zdN N L) 40:=by rw[←hW1];exact Blk.new w _ _
 have B1:Below w.heap.size w W1:=by rw[←hW1];exact(zF _ _).alloc (zD _) _
 have HC:=zB (zhV N L O W1 (hN.step B1) (fun k c p y h1 h2 h3 h4 W hW=>HR k c p y h1 h2 h3 h4 W (zA B1 hW)) h0 (fun k c h bef a W' h1=>HK k c h bef a W' (zA B1 h1)));have HS:=zB fun x W=>zdW x W;clear HR h0 hck HK;unfold NV zdN at HC⊢;unfold zdN at k1 hW1;have hlen:=S14.outs_length O N.comps.length;obtain⟨X,hX⟩:∃X,S14.outs O N.comps.length=X:=⟨_,rfl⟩;obtain⟨nc,hnc⟩:∃n,N.comps.length=n:=⟨_,rfl⟩;obtain⟨np,hnp⟩:∃n,N.parts.length=n:=⟨_,rfl⟩;obtain⟨nx,hnx⟩:∃n,N.ctxs.length=n:=⟨_,rfl⟩;obtain⟨pt,hpt⟩:∃n,N.part=n:=⟨_,rfl⟩;rw[hX]at hlen HC⊢;rw[hnc]at hlen hl0 hl;rw[hnc,hnp,hnx,hpt]at HC k1 hW1;rw[hnc,hnp,hnx,hpt];clear hnp hnx hpt hN hnc hX;go_enter Tryz.func16,Tryz.ntmps16;go_wp2_with (first
  | (rw[hW1])
  | (refine yA 40 (.tmp 1) (by rfl) (by rfl) w.heap.size (by rfl) [.slice L.a1 nc L.c1,.slice L.a2 np L.c2,.slice L.a3 nx L.c3,.int .i64 pt] 40 k1 _ Tryz.underlying40 rfl info_N ?_))
 refine HC.out.mono ?_;rintro e w2 ⟨a,cap,rfl,hrd,_,hcap,hb2⟩;obtain⟨g,o,rfl,hcs⟩:=hrd.at (i:=nc-1) (by unfold zaK;rw[zaH];omega);have hc0:w2.cell? ⟨g,o+(nc-1),none⟩=some (.int .i64 (X.getD (nc-1) 0)):=by
  rw[hcs (nc-1) (by unfold zaK;rw[zaH];omega),zI,zE (by omega)];simp[zaK]
 have hncz:(1:Int)≤(nc:Int):=by omega
 have e1:((nc-1:Nat):Int)=(nc:Int)-1:=by omega
 have hc1:w2.cell? ⟨g,o+((nc:Int)-1).toNat*1,none⟩=some (.int .i64 (X.getD (nc-1) 0)):=by
  rw[show((nc:Int)-1).toNat*1=nc-1 by omega];exact hc0
 have B2:=zA B1 hb2;clear hrd hcs k1 e1;go_wp2_with fail;refine(HS.out _ _).mono ?_;rintro e w3 ⟨rfl,hb3⟩;go_wp2_with fail;go_returns;exact⟨rfl,zA B2 hb3⟩
structure Kept(lo hi:Nat)(w w':World):Prop where
 os:w'.os=w.os
 tape:w'.tape=w.tape
 output:w'.output=w.output
 size:w.heap.size≤w'.heap.size
 same:∀k,k<lo∨hi≤k→k<w.heap.size→w'.heap[k]? = w.heap[k]?
theorem Kept.trans{lo hi:Nat}{a b c:World}(h:Kept lo hi a b)(k:Kept lo hi b c):Kept lo hi a c:=
 ⟨k.os.trans h.os,k.tape.trans h.tape,k.output.trans h.output,yC h.size k.size,fun i hi hl=>(k.same i hi (zaF hl h.size)).trans (h.same i hi hl)⟩
theorem Kept.below{lo hi:Nat}{a b:World}(h:Below a.heap.size a b):Kept lo hi a b:=⟨h.os,h.tape,h.output,h.size,fun k _ hk=>h.block k hk⟩
theorem Rd.kept{lo hi:Nat}{w w':World}{a:Option Addr}{vals:List Value}(h:Rd w a vals)(hk:Kept lo hi w w')(hf:∀g o,a=some ⟨g,o,none⟩→g<lo∨hi≤g):Rd w' a vals:=fun hn=>by
 obtain⟨g,o,rfl,hcs⟩:=h hn;refine⟨g,o,rfl,fun j v hv=> ?_⟩;have hc:=hcs j v hv;have hb:=hk.same g (hf g o rfl) (zL hc);unfold World.cell? at hc⊢;rw[hb];exact hc
def PRob(lo hi:Nat)(p:S14.P)(y:Lay)(w:World):Prop:=∀w',Kept lo hi w w'→PIs p y w'
theorem PRob.kept{lo hi:Nat}{p:S14.P}{y:Lay}{w w':World}(h:PRob lo hi p y w)(hk:Kept lo hi w w'):PRob lo hi p y w':=fun w2 h2=>h w2 (hk.trans h2)
theorem PRob.zero(lo hi:Nat)(w:World):PRob lo hi S14.P0 zdO w:=fun w' _=>PIs.zero w'
structure KepX(X:Nat→Prop)(w w':World):Prop where
 os:w'.os=w.os
 tape:w'.tape=w.tape
 output:w'.output=w.output
 size:w.heap.size≤w'.heap.size
 same:∀k,¬X k→k<w.heap.size→w'.heap[k]? = w.heap[k]?
theorem KepX.refl(X:Nat→Prop)(w:World):KepX X w w:=⟨rfl,rfl,rfl,zD _,fun _ _ _=>rfl⟩
theorem KepX.trans{X:Nat→Prop}{a b c:World}(h:KepX X a b)(k:KepX X b c):KepX X a c:=
 ⟨k.os.trans h.os,k.tape.trans h.tape,k.output.trans h.output,yC h.size k.size,fun i hi hl=>(k.same i hi (zaF hl h.size)).trans (h.same i hi hl)⟩
theorem KepX.below{X:Nat→Prop}{a b:World}(h:Below a.heap.size a b):KepX X a b:=⟨h.os,h.tape,h.output,h.size,fun k _ hk=>h.block k hk⟩
theorem KepX.row{X:Nat→Prop}{w w':World}{row:Option Nat}(h:w.grownBy w' row)(h1:∀b,row=some b→X b∨w.heap.size≤b):KepX X w w':=
 ⟨h.os,h.tape,h.output,h.size,fun k hk hl=>h.block k hl (fun e=>(h1 k e.symm).elim hk (fun h=>by omega))⟩
theorem KepX.rowB{X:Nat→Prop}{w0 w w':World}{row:Option Nat}(hk:KepX X w0 w)(h:w.grownBy w' row)(h1:∀b,row=some b→X b∨w0.heap.size≤b):KepX X w0 w':=
 ⟨h.os.trans hk.os,h.tape.trans hk.tape,h.output.trans hk.output,yC hk.size h.size,fun k hk2 hl=>(h.block k (zaF hl hk.size) (fun e=>(h1 k e.symm).elim hk2 (fun h=>by omega))).trans (hk.same k hk2 hl)⟩
theorem KepX.toBelow{X:Nat→Prop}{w0 w w':World}(h:KepX X w w')(hb:Below w0.heap.size w0 w)(hl:∀k,X k→w0.heap.size≤k):Below w0.heap.size w0 w':=
 ⟨h.os.trans hb.os,h.tape.trans hb.tape,h.output.trans hb.output,yC hb.size h.size,fun k hk=>(h.same k (fun hx=>by have:=hl k hx;omega) (zaF hk hb.size)).trans (hb.block k hk)⟩
theorem KepX.mono{X X':Nat→Prop}{w w':World}(h:KepX X w w')(h1:∀k,k<w.heap.size→X k→X' k):KepX X' w w':=
 ⟨h.os,h.tape,h.output,h.size,fun k hk hl=>h.same k (fun hx=>hk (h1 k hl hx)) hl⟩
theorem KepX.toKept{X:Nat→Prop}{lo hi:Nat}{w w':World}(h:KepX X w w')(h1:∀k,k<w.heap.size→X k→lo≤k∧k<hi):Kept lo hi w w':=
 ⟨h.os,h.tape,h.output,h.size,fun k hk hl=>h.same k (fun hx=>by have:=h1 k hl hx;omega) hl⟩
theorem Rd.kepX{X:Nat→Prop}{w w':World}{a:Option Addr}{vals:List Value}(h:Rd w a vals)(hk:KepX X w w')(hf:∀g o,a=some ⟨g,o,none⟩→¬X g):Rd w' a vals:=fun hn=>by
 obtain⟨g,o,rfl,hcs⟩:=h hn;refine⟨g,o,rfl,fun j v hv=> ?_⟩;have hc:=hcs j v hv;have hb:=hk.same g (hf g o rfl) (zL hc);unfold World.cell? at hc⊢;rw[hb];exact hc
theorem Blk.kepX{X:Nat→Prop}{w w':World}{b:Nat}{cs:List Value}{t:TypeId}(h:Blk w b cs t)(hk:KepX X w w')(hb:¬X b):Blk w' b cs t:=by
 have hl:=h.lt;unfold Blk at *;rw[hk.same b hb hl];exact h
def PRobX(X:Nat→Prop)(p:S14.P)(y:Lay)(w:World):Prop:=∀w',KepX X w w'→PIs p y w'
theorem PRobX.is{X:Nat→Prop}{p:S14.P}{y:Lay}{w:World}(h:PRobX X p y w):PIs p y w:=h w (KepX.refl _ _)
theorem PRobX.kep{X:Nat→Prop}{p:S14.P}{y:Lay}{w w':World}(h:PRobX X p y w)(hk:KepX X w w'):PRobX X p y w':=fun w2 h2=>h w2 (hk.trans h2)
theorem PRobX.change{X X':Nat→Prop}{p:S14.P}{y:Lay}{w:World}(h:PRobX X p y w)(h1:∀k,k<w.heap.size→X' k→X k):PRobX X' p y w:=fun w2 h3=>h w2 (h3.mono h1)
theorem PRobX.append{X X':Nat→Prop}{p:S14.P}{y:Lay}{w w':World}{row:Option Nat}(h:PRobX X p y w)(hg:w.grownBy w' row)(h1:∀b,row=some b→X b)(h2:∀k,k<w.heap.size→X' k→X k):PRobX X' p y w':=fun w2 h3=>
 h w2 ⟨h3.os.trans hg.os,h3.tape.trans hg.tape,h3.output.trans hg.output,yC hg.size h3.size,fun k hk hl=>(h3.same k (fun hx=>hk (h2 k hl hx)) (zaF hl hg.size)).trans (hg.block k hl (fun e=>hk (h1 k e.symm)))⟩
theorem PRob.toX{lo hi:Nat}{X:Nat→Prop}{p:S14.P}{y:Lay}{w:World}(h:PRob lo hi p y w)(h1:∀k,k<w.heap.size→X k→lo≤k∧k<hi):PRobX X p y w:=fun w2 h2=>h w2 (h2.toKept h1)
theorem zrH{P:Program}{w:World}{o:Oper}{a:Act}(s x:Operand)(t e:TypeId)(size bytes:Nat)(zc:List Value)(base:Nat)
 (he:Elems P t e size bytes zc) (ho:o.op = .call {callee:=.builtin .append,args:=#[s,x],argTypes:=#[t,t]})
 (v:Value) (n:Nat) (xs:List Value) (hs:a.eval s=v) (hown:w.ownsRow base e size v n xs)
 (ad:Addr) (m c:Nat) (news:List Value) (hx:a.eval x = .slice (some ad) m c) (hl:news.length=m*size) (hpos:news≠ []) (hnews:Rd w (some ad) news) (h1:∀u∈news,u.oneCell'=true)
 (h63:n+m≤maxLen) (hbytes:(n+m)*bytes≤140737488355328) (hbase:base≤w.heap.size) :
 ∃a' cap' w',(execOp a.eval o).run P w = .ok (.value (.slice a' (n+m) cap')) w'∧w'.ownsRow base e size (.slice a' (n+m) cap') (n+m) (xs++news)∧w.grownBy w' v.ownBlock∧
  ((Value.slice a' (n+m) cap').ownBlock=v.ownBlock∨(Value.slice a' (n+m) cap').ownBlock=some w.heap.size):=by
 obtain⟨i,z,hi,hz,hsz,hby,hzs,hzc⟩:=he.open;have hnews':∀j u,news[j]? = some u→w.cell? (ad.add j)=some u:=by
  intro j u hu;obtain⟨b,off,e1,hr⟩:=hnews hpos;cases e1;rw[Addr.add_mid];exact hr j u hu
 obtain⟨v',w',hr,h2,h3,h4,h5⟩:=run_append_own_at (P:=P) w base t o.type e i z size bytes he.1 hi hz hsz hby hzs he.2.2.2 v n xs hown ad m c news hl hnews' h1 h63 hbytes hbase;obtain⟨a',cap',rfl,_⟩:=zaX h2;refine⟨a',cap',w',?_,h2,h3,h5⟩;unfold execOp;simp only[ho,resolve,invoke,builtin,Sem.run_bind,Sem.run_pure,Result.andThen_ok,List.map_toArray,lmc,lmn,hs,hx,hr]
theorem zlK{P:Program}{Y:Array Value→Nat→Option Bool}{Q:Exit→Act→World→Prop}{S:World→Prop}{o:Oper}{rest:List (Bool×Oper)}{a:Act}{G:Act→World→Prop}{w:World}
 (s x:Operand) (t e:TypeId) (size bytes:Nat) (zc:List Value) (base:Nat) (he:Elems P t e size bytes zc)
 (v:Value) (n:Nat) (xs:List Value) (ad:Addr) (m cap:Nat) (news:List Value) (hw:Region.wanted o (Y a.tmps)=true)
 (ho:o.op = .call {callee:=.builtin .append,args:=#[s,x],argTypes:=#[t,t]}) (hs:a.eval s=v) (hx:a.eval x = .slice (some ad) m cap)
 (hl:news.length=m*size) (hpos:news≠ []) (h1:∀u∈news,u.oneCell'=true) (h63:n+m≤maxLen) (hbytes:(n+m)*bytes≤140737488355328)
 (hown:w.ownsRow base e size v n xs) (hnews:Rd w (some ad) news) (hbase:base≤w.heap.size)
 (h:∀a' cap' w',w'.ownsRow base e size (.slice a' (n+m) cap') (n+m) (xs++news)→w.grownBy w' v.ownBlock→((Value.slice a' (n+m) cap').ownBlock=v.ownBlock∨(Value.slice a' (n+m) cap').ownBlock=some w.heap.size)→
   S w'∧zdD P Y Q S G rest (a.put o.dst (.slice a' (n+m) cap')) w'):zdD P Y Q S G ((false,o)::rest) a w:=by
 obtain⟨a',cap',w',r1,r2,r3,r4⟩:=zrH (P:=P) (w:=w) s x t e size bytes zc base he ho v n xs hs hown ad m cap news hx hl hpos hnews h1 h63 hbytes hbase;obtain⟨h4,h5⟩:=h a' cap' w' r2 r3 r4;exact zbZ hw r1 h4 h5
theorem zeS{w:World}{base:Nat}{e t:TypeId}{size n b:Nat}{v:Value}{xs cs:List Value}(h:w.ownsRow base e size v n xs)(hb:Blk w b cs t)(hne:¬e=t):v.ownBlock≠some b:=by
 intro hg;obtain⟨_,cur,hc⟩:=zbX h hg;unfold Blk at hb;rw[hb]at hc;simp only[Option.some.injEq]at hc;cases hc;exact hne rfl
def zsU(c:S14.C):FuncId:=
 if c.kind=0 then 102 else if c.kind=1 then 114 else if c.kind=2 then 143 else if c.kind=3 then 159 else if c.kind=4 then 188 else if c.kind=5 then 195 else 216
def zmO(l:List S14.C)(F:S14.C→S14.P):Prop:=
 ∀(k:Nat) (c:S14.C),l[k]? = some c→S14.ok c (k:Int)=true→∀W,Calls Tryz.prog (zsU c) #[CV c] W fun e w'=>∃y,e = .returned (PV (F c) y)∧PRob 0 W.heap.size (F c) y w'∧Below W.heap.size W w'
def XNew(R NB:Nat)(v:Value)(k:Nat):Prop:=k≤R∨k=NB∨v.ownBlock=some k
def ziH(w:World)(N N':S14.N):Prop:=∀(L:NLay) (W:World) (X:Nat→Prop),Below w.heap.size w W→(∀k,X k→k<W.heap.size)→(∀W2,KepX X W W2→NIs N L W2)→OwnP W w.heap.size L.a2 L.c2 N.parts L.ys→
 (∀(j:Nat) (p:S14.P) (y:Lay),N.parts[j]? = some p→L.ys[j]? = some y→PRobX (fun k=>X k∨(Value.slice L.a2 N.parts.length L.c2).ownBlock=some k) p y W)→
 (∀g,(Value.slice L.a2 N.parts.length L.c2).ownBlock=some g→¬X g)→
 (∀W2,KepX (fun k=>X k∨(Value.slice L.a2 N.parts.length L.c2).ownBlock=some k) W W2→Rd W2 L.a1 (zhK N.comps)∧Rd W2 L.a3 (zhJ N.ctxs))→
 Calls Tryz.prog 27 #[NV N L] W fun e w'=>∃L',e = .returned (NV N' L')∧(∀W2,KepX X w' W2→NIs N' L' W2)∧KepX (fun k=>(Value.slice L.a2 N.parts.length L.c2).ownBlock=some k) W w'
theorem zjP(v:Value)(w:World):(nilAhead 371 111 v "compactor/network.fresh").run Tryz.prog w = .ok (some false) w:=by kernel_rfl
theorem zkI(v:Value)(w:World):(method 371 111 v "compactor/network.fresh").run Tryz.prog w = .ok (102,v) w:=by kernel_rfl
theorem zmM(v:Value)(w:World):(nilAhead 371 112 v "compactor/network.fresh").run Tryz.prog w = .ok (some false) w:=by kernel_rfl
theorem znU(v:Value)(w:World):(method 371 112 v "compactor/network.fresh").run Tryz.prog w = .ok (114,v) w:=by kernel_rfl
theorem zlD(v:Value)(w:World):(nilAhead 371 113 v "compactor/network.fresh").run Tryz.prog w = .ok (some false) w:=by kernel_rfl
theorem zlZ(v:Value)(w:World):(method 371 113 v "compactor/network.fresh").run Tryz.prog w = .ok (143,v) w:=by kernel_rfl
theorem zlC(v:Value)(w:World):(nilAhead 371 114 v "compactor/network.fresh").run Tryz.prog w = .ok (some false) w:=by kernel_rfl
theorem zlY(v:Value)(w:World):(method 371 114 v "compactor/network.fresh").run Tryz.prog w = .ok (159,v) w:=by kernel_rfl
theorem zlE(v:Value)(w:World):(nilAhead 371 115 v "compactor/network.fresh").run Tryz.prog w = .ok (some false) w:=by kernel_rfl
theorem zmA(v:Value)(w:World):(method 371 115 v "compactor/network.fresh").run Tryz.prog w = .ok (188,v) w:=by kernel_rfl
theorem zoD(v:Value)(w:World):(nilAhead 371 116 v "compactor/network.fresh").run Tryz.prog w = .ok (some false) w:=by kernel_rfl
theorem zpQ(v:Value)(w:World):(method 371 116 v "compactor/network.fresh").run Tryz.prog w = .ok (195,v) w:=by kernel_rfl
theorem zlB(v:Value)(w:World):(nilAhead 371 117 v "compactor/network.fresh").run Tryz.prog w = .ok (some false) w:=by kernel_rfl
theorem zlX(v:Value)(w:World):(method 371 117 v "compactor/network.fresh").run Tryz.prog w = .ok (216,v) w:=by kernel_rfl
theorem zoO{α:Type}{l:List α}{k:Nat}{x:α}(h:l[k]? = some x):l.take (k+1)=l.take k ++ [x]:=by
 rw[List.take_add_one,h];rfl
theorem PVals_16(p:S14.P)(y:Lay):∃v0 v1 v2 v3 v4 v5 v6 v7 v8 v9 v10 v11 v12 v13 v14 v15,yL p y = [v0,v1,v2,v3,v4,v5,v6,v7,v8,v9,v10,v11,v12,v13,v14,v15]:=⟨_,_,_,_,_,_,_,_,_,_,_,_,_,_,_,_,rfl⟩
theorem PCs_snoc(ps:List S14.P):∀(ys:List Lay) (p:S14.P) (y:Lay),ys.length=ps.length→PCs (ps ++ [p]) (ys ++ [y])=PCs ps ys++yL p y:=by
 induction ps with
 | nil=>
   intro ys p y h;cases ys with
   | nil=>
     obtain⟨V,hV⟩:∃V,yL p y=V:=⟨_,rfl⟩;have e:PCs ([] ++ [p]) ([] ++ [y])=yL p y ++ []:=rfl;have e2:PCs ([]:List S14.P) [] = []:=rfl;rw[e,e2,hV,List.append_nil,List.nil_append]
   | cons z ys=>simp at h
 | cons q ps ih=>
   intro ys p y h;cases ys with
   | nil=>simp at h
   | cons z ys=>
     have e:PCs (q::ps ++ [p]) (z::ys ++ [y])=yL q z++PCs (ps ++ [p]) (ys ++ [y]):=rfl;have e2:PCs (q::ps) (z::ys)=yL q z++PCs ps ys:=rfl;rw[e,e2,ih ys p y (by simpa using h),zcU]
theorem mk16(w:World):(Instr.makeSlice 35 (.int .i64 16) (.int .i64 16)).run Tryz.prog w = .ok (.slice (some ⟨w.heap.size,0,none⟩) 16 16) (w.alloc (.cells (List.replicate 16 (.int .u32 0)).toArray 44)):=by
 obtain⟨i,z',hi,hz,hsz,hby,hzs,hzc⟩:=elems_u32.open;have hr:=run_make (P:=Tryz.prog) w 35 44 i z' elems_u32.1 hi hz .i64 .i64 16 16 (by omega) (by omega) (by rw[hby];omega) (by omega);have hc:z'.cells = #[.int .u32 0]:=by
  apply Array.ext';rw[hzc]
 have hm:madeCells z'.cells (16*i.size)=(List.replicate 16 (Value.int .u32 0)).toArray:=by
  rw[hsz,zaO,hc];apply Array.ext';rw[toList_madeCells_one]
 have e16:(16:Int).toNat=16:=rfl;rw[e16,hm]at hr;exact hr
theorem new14_good(l:List S14.C)(F:S14.C→S14.P)(N':S14.N)(a:Option Addr)(cap:Nat)(w:World)(hrd:Rd w a (zhK l))(hck:S14.check l=0)(HF:zmO l F)(HOp:ziH w ⟨l,l.map F,List.replicate 16 0,1⟩ N') :
 Calls Tryz.prog 13 #[.slice a l.length cap] w fun e w'=>∃L,e = .returned (.tuple #[NV N' L,.int .i64 0])∧(∀W,KepX (fun k=>k<w.heap.size) w' W→NIs N' L W)∧Below w.heap.size w w':=by
 obtain⟨hl1,hl16,hok⟩:=S14.check_zero hck;obtain⟨g,o,rfl,hcs⟩:=hrd (fun e=>by have h:=yS List.length e;rw[zbB,List.length_nil]at h;omega)
 have HC:=zB fun(W:World) (hW:Below w.heap.size w W)=>(show Calls Tryz.prog 24 #[.slice (some ⟨g,o,none⟩) l.length cap] W fun e w'=>e = .returned (.int .i64 0)∧Below W.heap.size W w' by
  have:=zqL l (some ⟨g,o,none⟩) cap W (by omega) (hrd.step hW);rwa[hck]at this)
 have HCl:=zB fun(W:World) (hW:Below w.heap.size w W)=>znM (zhK l) l.length (by rw[zbB,zdL]) (Cs14_one _) g o cap W hl1 (by omega) (hrd.step hW);have HO:=zB fun(x:S14.C) W=>(show Calls Tryz.prog 26 #[.agg #[.int .i64 x.kind,.int .i64 x.bits,.int .i64 x.limit,.int .i64 x.rate,.int .i64 x.first,.int .i64 x.second]] W _ from ziL x W);have HFr:=zB HF;have Hok:=zB hok;have HOP:=zB HOp;have Hrd:=zB hrd;obtain⟨nc,hnc⟩:∃n,l.length=n:=⟨_,rfl⟩;rw[hnc]at HC HCl hl1 hl16;have Hnc:=zB hnc;rw[hnc];clear hrd hcs hck HF HOp hok hnc;obtain⟨W1,hW1⟩:∃W1,w.alloc (.cells zN 40)=W1:=⟨_,rfl⟩;have k1:Blk W1 w.heap.size [.slice none 0 0,.slice none 0 0,.slice none 0 0,.int .i64 0] 40:=by rw[←hW1];exact Blk.new w _ _
 have B1:Below w.heap.size w W1:=by rw[←hW1];exact(zF _ _).alloc (zD _) _
 unfold zN at hW1;go_enter Tryz.func13,Tryz.ntmps13;go_wp2_with (rw[hW1]);refine(HC.out _ B1).mono ?_;rintro e w2 ⟨rfl,hb2⟩;have k2:=k1.step hb2;have B2:=zA B1 hb2;clear k1 B1 hb2 hW1;go_wp2_with fail;have hz2:=B2.size;have kz2:=k2.lt;obtain⟨D,hD⟩:∃D,w2.heap.size=D:=⟨_,rfl⟩;rw[hD]at hz2 kz2;refine zbU 5 1 (.read 0 (.two (.one 1 (.two (.one 2 (.read 3 (.one 4 .done))) (.one 4 (.one 2 (.read 3 .done))))) (.two (.one 2 (.two (.one 1 (.read 3 (.one 4 .done))) (.one 4 (.one 1 (.read 3 .done))))) (.one 4 (.two (.one 1 (.one 2 (.read 3 .done))) (.one 2 (.one 1 (.read 3 .done)))))))) _ _ o0P (fun K=>Below w2.heap.size w2 K) (by kernel_rfl) (yB 5 _).symm (by kernel_rfl) (by kernel_rfl) (by kernel_rfl) (by kernel_rfl) ((zF _ _).drew) (fun Y Q4 F4 hY hF=> ?_);simp only[Plan.map,ltc,ltz,ldc,ldz,List.getD_cons_zero,List.getD_cons_succ]
 repeat
  apply zU (by rw[hY];rfl)
  ·intro w2 hS2;(try simp only[Keeps,Cells]at hS2);go_simp;with_reducible rfl
  simp only[zuI]
 have fin:∀(b1:Option Addr) (c1 X NB:Nat) (w6:World),Below w2.heap.size w2 w6→w6.ownsRow D 37 6 (.slice b1 nc c1) nc (zhK l)→Blk w6 X (List.replicate 16 (.int .u32 0)) 44→Blk w6 NB [.slice none 0 0,.slice none 0 0,.slice none 0 0,.int .i64 0] 40→D≤X→D≤NB→X≠NB→
  F4 {tmps:=#[Value.slice (some {block:=g,off:=o}) nc cap,undef,
   Value.pointer (some {block:=w.heap.size,off:=0}),Value.int IntKind.i64 0,Value.int IntKind.i64 0,
   Value.pointer (some {block:=NB,off:=0}),undef,undef,Value.slice (some {block:=g,off:=o}) nc cap,Value.int IntKind.i64 0,
   Value.int IntKind.i64 0,Value.bool false,undef,undef,Value.slice (some {block:=g,off:=o}) nc cap,.slice b1 nc c1,.slice (some ⟨X,0,none⟩) 16 16,.agg #[.slice b1 nc c1,.slice none 0 0,.slice (some ⟨X,0,none⟩) 16 16,.int .i64 1],undef,undef,undef,undef,undef,undef,undef,undef,undef,undef,undef,undef,undef,undef,undef,undef,undef],defers:=[]} w6:=by
  intro b1 c1 X NB w6 hb6 hown kX kN h1 h2 h3;refine hF.out _ _ (fun K hK=> ?_);clear hF hY HC HCl;refine zT 40 (.tmp 5) (.tmp 17) (by rfl) (by rfl) NB (by rfl) [.slice b1 nc c1,.slice none 0 0,.slice (some ⟨X,0,none⟩) 16 16,.int .i64 1] (by rfl) _ 40 kN info_N rfl (by simp[Value.oneCell']) ?_;intro wL EL gL sL;go_wp2_with fail;refine OnlyK.mk (hK.out _ _ ?_);clear hK;have hXn:X≠NB:=h3;have kXL:Blk wL X (List.replicate 16 (.int .u32 0)) 44:=kX.keptRow gL (by simpa using h3);have hownN:=zeS hown kN (by decide);have B6:=zA B2 hb6;have BL:Below w.heap.size w wL:=B6.trans (yG gL (by omega) B6.size);obtain⟨gC,hgC,hgD,hrC,hCN,hCc⟩:∃gC,b1=some ⟨gC,0,none⟩∧D≤gC∧Rd wL b1 (zhK l)∧gC≠NB∧nc≤c1∧c1≤maxLen:=by
   rcases hown.2 with⟨e,e2⟩|⟨g2,cap',cur,e,hb',hg',h5,h6,_⟩
   ·omega
   ·simp only[Value.slice.injEq]at e;obtain⟨rfl,_,rfl⟩:=e;have hne:g2≠NB:=fun e=>hownN (by rw[e];rfl);refine⟨g2,rfl,hb',?_,hne,h5,h6⟩;exact Rd.kepX (X:=fun k=>k=NB) (Rd.of_owns hown) (KepX.row gL (fun b e=>.inl (zK e).symm)) (fun g o e=>by cases e;exact hne)
  have hlC:gC<wL.heap.size:=by
   obtain⟨g2,o2,e2,hcs⟩:=hrC (fun e=>by have h:=yS List.length e;have:=Hnc.out;rw[zbB,List.length_nil]at h;omega);rw[hgC]at e2;cases e2;obtain⟨v0,hv0⟩:∃v,(zhK l)[0]? = some v:=⟨_,zE (by have:=Hnc.out;rw[zbB];omega)⟩;exact zL (hcs 0 v0 hv0)
  have k2L:Blk wL w.heap.size [.slice none 0 0,.slice none 0 0,.slice none 0 0,.int .i64 0] 40:=(k2.step hb6).keptRow gL (by simp;omega);have HrC:=zB hrC;have hlX:=kXL.lt;have hlN:=EL.lt;obtain⟨G,hG⟩:∃G,wL.heap.size=G:=⟨_,rfl⟩;rw[hG]at hlC hlX hlN;have hzL:w.heap.size≤G:=by rw[←hG];exact BL.size
  clear hown hownN hrC kN kX gL sL k2 B2 hb6 B6 h3;subst hgC;go_wp2_with fail
  go_loopw [20] (fun i wr=>∃(k:Nat) (a:Option Addr) (c:Nat) (ys:List Lay),k≤nc∧i = .int .i64 (k:Int)∧ys.length=k∧Hid (wr.ownsRow G 78 16 (.slice a k c) k (PCs ((l.take k).map F) ys))∧
   Blk wr NB [.slice (some ⟨gC,0,none⟩) nc c1,.slice a k c,.slice (some ⟨X,0,none⟩) 16 16,.int .i64 1] 40∧KepX (fun k=>k=NB) wL wr∧
   Hid (∀(j:Nat) (p:S14.P) (y:Lay),((l.take k).map F)[j]? = some p→ys[j]? = some y→PRobX (XNew w.heap.size NB (.slice a k c)) p y wr)) (fun i _=>nc-(intOf i).toNat)
  case atStart=>exact⟨0,none,0,[],by omega,rfl,rfl,zB (World.ownsRow_nil wL _ _ _),EL,KepX.refl _ _,zB (fun j p y h=>by simp at h)⟩
  case round=>
   clear EL;obtain⟨k,a,c,ys,hk,rfl,hys,hown,EB,hKX,hrob⟩:=hrel;have hzr:G≤wr.heap.size:=by rw[←hG];exact hKX.size
   have hBr:Below w.heap.size w wr:=hKX.toBelow BL (fun k e=>by omega);by_cases hlt:k<nc
   ·have hkz:(k:Int)<(nc:Int):=by omega
    obtain⟨x,hx⟩:∃x,l[k]? = some x:=⟨_,zE (by have:=Hnc.out;omega)⟩;obtain⟨g1,o1,e1,hcs1⟩:=(Hrd.out.step hBr) (fun e=>by have h:=yS List.length e;have:=Hnc.out;rw[zbB,List.length_nil]at h;omega);cases e1;obtain⟨x0,x1,x2,x3,x4,x5⟩:=zsN hcs1 hx;have hoki:=Hok.out k x hx;have hkd:=(S14.ok_is hoki).kind;have HX0:=zB (HFr.out k x hx hoki);have Hx:=zB hx;have hgr:g<wr.heap.size:=zL x0;obtain⟨W5,hW5⟩:∃W5,wr.alloc (.cells #[.int .i64 x.kind,.int .i64 x.bits,.int .i64 x.limit,.int .i64 x.rate,.int .i64 x.first,.int .i64 x.second] 37)=W5:=⟨_,rfl⟩;obtain⟨Q,hQ⟩:∃Q,wr.heap.size=Q:=⟨_,rfl⟩;have kQ:Blk W5 Q [.int .i64 x.kind,.int .i64 x.bits,.int .i64 x.limit,.int .i64 x.rate,.int .i64 x.first,.int .i64 x.second] 37:=by rw[←hW5,←hQ];exact Blk.new wr _ _
    have hb5:Below wr.heap.size wr W5:=by rw[←hW5];exact(zF _ _).alloc (zD _) _
    have k05:=EB.step hb5;have KX5:=hKX.trans (KepX.below hb5);have hz5:G≤W5.heap.size:=yC hzr hb5.size;have Hown5:=zB (yX (B:=0) hown.out hb5);have Hrob5:=zB (show∀(j:Nat) (p:S14.P) (y:Lay),((l.take k).map F)[j]? = some p→ys[j]? = some y→PRobX (XNew w.heap.size NB (.slice a k c)) p y W5 from fun j p y h1 h2=>(hrob.out j p y h1 h2).kep (KepX.below hb5))
    have hCS:Cells W5 [(⟨Q,0,none⟩,.int .i64 x.kind),(⟨Q,1,none⟩,.int .i64 x.bits),(⟨Q,2,none⟩,.int .i64 x.limit),(⟨Q,3,none⟩,.int .i64 x.rate),(⟨Q,4,none⟩,.int .i64 x.first),(⟨Q,5,none⟩,.int .i64 x.second),(⟨NB,1,none⟩,.slice a k c)]:=
     ⟨kQ.cell 0,kQ.cell 1,kQ.cell 2,kQ.cell 3,kQ.cell 4,kQ.cell 5,k05.cell 1,yF⟩
    clear hb5 hown hrob EB hKX hcs1 hoki hx;go_wp2_with (first|(rw[hW5,hQ])|(rw[hW5])|fail);clear x0 x1 x2 x3 x4 x5;unfold zsU CV zZ at HX0;obtain⟨TT,FF,hof,hX3,hen,hme,hah⟩:∃(TT:TypeId) (FF:FuncId),OfV x = .iface TT (.agg #[.int .i64 x.kind,.int .i64 x.bits,.int .i64 x.limit,.int .i64 x.rate,.int .i64 x.first,.int .i64 x.second])∧(∀W,Calls Tryz.prog FF #[.agg #[.int .i64 x.kind,.int .i64 x.bits,.int .i64 x.limit,.int .i64 x.rate,.int .i64 x.first,.int .i64 x.second]] W fun e w'=>∃y,e = .returned (PV (F x) y)∧PRob 0 W.heap.size (F x) y w'∧Below W.heap.size W w')∧(∀args w,(callFunc FF args).run Tryz.prog w = .ok (.enter FF args) w)∧(∀w,(method 371 TT (.agg #[.int .i64 x.kind,.int .i64 x.bits,.int .i64 x.limit,.int .i64 x.rate,.int .i64 x.first,.int .i64 x.second]) "compactor/network.fresh").run Tryz.prog w = .ok (FF,(.agg #[.int .i64 x.kind,.int .i64 x.bits,.int .i64 x.limit,.int .i64 x.rate,.int .i64 x.first,.int .i64 x.second])) w)∧(∀w,(nilAhead 371 TT (.agg #[.int .i64 x.kind,.int .i64 x.bits,.int .i64 x.limit,.int .i64 x.rate,.int .i64 x.first,.int .i64 x.second]) "compactor/network.fresh").run Tryz.prog w = .ok (some false) w):=by
     by_cases k0:x.kind=0
     ·refine⟨111,102,?_,?_,enters_of Tryz.func102 (by kernel_rfl) rfl,zkI _,zjP _⟩
      ·unfold OfV CV zZ;simp only[k0];rfl
      ·intro W;have:=HX0.out W;simp only[k0]at this⊢;exact this
     by_cases k1:x.kind=1
     ·refine⟨112,114,?_,?_,enters_of Tryz.func114 (by kernel_rfl) rfl,znU _,zmM _⟩
      ·unfold OfV CV zZ;simp only[k1];rfl
      ·intro W;have:=HX0.out W;simp only[k1]at this⊢;exact this
     by_cases k2:x.kind=2
     ·refine⟨113,143,?_,?_,enters_of Tryz.func143 (by kernel_rfl) rfl,zlZ _,zlD _⟩
      ·unfold OfV CV zZ;simp only[k2];rfl
      ·intro W;have:=HX0.out W;simp only[k2]at this⊢;exact this
     by_cases k3:x.kind=3
     ·refine⟨114,159,?_,?_,enters_of Tryz.func159 (by kernel_rfl) rfl,zlY _,zlC _⟩
      ·unfold OfV CV zZ;simp only[k3];rfl
      ·intro W;have:=HX0.out W;simp only[k3]at this⊢;exact this
     by_cases k4:x.kind=4
     ·refine⟨115,188,?_,?_,enters_of Tryz.func188 (by kernel_rfl) rfl,zmA _,zlE _⟩
      ·unfold OfV CV zZ;simp only[k4];rfl
      ·intro W;have:=HX0.out W;simp only[k4]at this⊢;exact this
     by_cases k5:x.kind=5
     ·refine⟨116,195,?_,?_,enters_of Tryz.func195 (by kernel_rfl) rfl,zpQ _,zoD _⟩
      ·unfold OfV CV zZ;simp only[k5];rfl
      ·intro W;have:=HX0.out W;simp only[k5]at this⊢;exact this
     by_cases k6:x.kind=6
     ·refine⟨117,216,?_,?_,enters_of Tryz.func216 (by kernel_rfl) rfl,zlX _,zlB _⟩
      ·unfold OfV CV zZ;simp only[k6];rfl
      ·intro W;have:=HX0.out W;simp only[k6]at this⊢;exact this
     omega
    have HX:=zB hX3;clear hX3 HX0;go_wp2_with fail;refine zuL 7 2 [(U,[U,U,U]),(zuH,[zuH,zuH,zuH,U]),(zuH,[zuH,zuH,zuH,zuH,U]),(zuH,[zuH,zuH,zuH,zuH,zuH,U]),(zuH,[zuH,zuH,zuH,zuH,zuH,zuH,U])] (fun K=>Below G W5 K∧Cells K [(⟨Q,0,none⟩,.int .i64 x.kind),(⟨Q,1,none⟩,.int .i64 x.bits),(⟨Q,2,none⟩,.int .i64 x.limit),(⟨Q,3,none⟩,.int .i64 x.rate),(⟨Q,4,none⟩,.int .i64 x.first),(⟨Q,5,none⟩,.int .i64 x.second),(⟨NB,1,none⟩,.slice a k c)]) (by kernel_rfl) (⟨((zF _ _).drew).mono hz5,hCS⟩) (fun Y Q4 F4 hY hF=> ?_);simp only[zuJ]
    repeat
     apply zJ (by rw[hY];rfl)
     ·intro w2 hS2;(try simp only[Keeps,Cells]at hS2);go_simp;with_reducible rfl
     simp only[zuI]
    apply zR (by rw[hY];rfl)
    ·go_simp;with_reducible exact⟨rfl,rfl⟩
    refine(HO.out x _).mono ?_;rintro e w6 ⟨rfl,hb6⟩;have hb56:Below W5.heap.size W5 w6:=zA ((zF _ _).drew) hb6;have hcs6:Cells w6 [(⟨Q,0,none⟩,.int .i64 x.kind),(⟨Q,1,none⟩,.int .i64 x.bits),(⟨Q,2,none⟩,.int .i64 x.limit),(⟨Q,3,none⟩,.int .i64 x.rate),(⟨Q,4,none⟩,.int .i64 x.first),(⟨Q,5,none⟩,.int .i64 x.second),(⟨NB,1,none⟩,.slice a k c)]:=Cells.step hb56 hCS;refine⟨_,rfl,⟨hb56.mono hz5,hcs6⟩,?_⟩;simp only[zuI];rw[hof];apply zR (by rw[hY];rfl)
    ·go_simp;first|with_reducible exact⟨rfl,rfl⟩|with_reducible rfl
    refine(HX.out w6).mono ?_;rintro e w7 ⟨y,rfl,hY7,hb7⟩;have hcs7:Cells w7 [(⟨Q,0,none⟩,.int .i64 x.kind),(⟨Q,1,none⟩,.int .i64 x.bits),(⟨Q,2,none⟩,.int .i64 x.limit),(⟨Q,3,none⟩,.int .i64 x.rate),(⟨Q,4,none⟩,.int .i64 x.first),(⟨Q,5,none⟩,.int .i64 x.second),(⟨NB,1,none⟩,.slice a k c)]:=Cells.step hb7 hcs6;have hb57:Below W5.heap.size W5 w7:=zA hb56 hb7;refine⟨_,rfl,⟨hb57.mono hz5,hcs7⟩,?_⟩;simp only[zuI];have hb8:Below w7.heap.size w7 (w7.alloc (.cells (yL (F x) y).toArray 78)):=(zF _ _).alloc (zD _) _;have hb58:=zA hb57 hb8;have hcs8:=Cells.step hb8 hcs7;have Hh8:=zB (yX (B:=0) Hown5.out hb58);have Hr8:Hid (Rd (w7.alloc (.cells (yL (F x) y).toArray 78)) (some ⟨w7.heap.size,0,none⟩) (yL (F x) y)):=zB (fun _=>⟨_,0,rfl,(Blk.new w7 (yL (F x) y) 78).cells⟩);have k08:=k05.step hb58;have kQ8:=kQ.step hb58;have hz8:G≤(w7.alloc (.cells (yL (F x) y).toArray 78)).heap.size:=yC hz5 hb58.size;have hz67:w6.heap.size≤w7.heap.size:=hb7.size;have hz56:W5.heap.size≤w6.heap.size:=hb56.size;have HY8:Hid (PRob 0 w6.heap.size (F x) y (w7.alloc (.cells (yL (F x) y).toArray 78))):=zB (hY7.kept (Kept.below hb8));unfold PV;obtain⟨v0,v1,v2,v3,v4,v5,v6,v7,v8,v9,v10,v11,v12,v13,v14,v15,hVS⟩:=PVals_16 (F x) y;rw[hVS]at hb8 hb58 hcs8 Hh8 Hr8 k08 kQ8 hz8 HY8⊢;have HVS:=zB hVS;clear hVS hY7;refine zbZ (by rw[hY];rfl) (by go_simp;first|with_reducible exact⟨rfl,rfl⟩|with_reducible rfl) ((show Below G W5 (w7.alloc (.cells #[v0,v1,v2,v3,v4,v5,v6,v7,v8,v9,v10,v11,v12,v13,v14,v15] 78))∧Cells (w7.alloc (.cells #[v0,v1,v2,v3,v4,v5,v6,v7,v8,v9,v10,v11,v12,v13,v14,v15] 78)) [(⟨Q,0,none⟩,.int .i64 x.kind),(⟨Q,1,none⟩,.int .i64 x.bits),(⟨Q,2,none⟩,.int .i64 x.limit),(⟨Q,3,none⟩,.int .i64 x.rate),(⟨Q,4,none⟩,.int .i64 x.first),(⟨Q,5,none⟩,.int .i64 x.second),(⟨NB,1,none⟩,.slice a k c)]from⟨hb58.mono hz5,hcs8⟩)) ?_;simp only[zuI];generalize w7.alloc (.cells #[v0,v1,v2,v3,v4,v5,v6,v7,v8,v9,v10,v11,v12,v13,v14,v15] 78)=w8 at *;refine zlK (.tmp 25) (.tmp 29) 38 78 16 240 _ G zqD (.slice a k c) k (PCs ((l.take k).map F) ys) ⟨w7.heap.size,0,none⟩ 1 1 [v0,v1,v2,v3,v4,v5,v6,v7,v8,v9,v10,v11,v12,v13,v14,v15] (by rw[hY];rfl) rfl rfl rfl rfl (by simp) (HVS.out▸zaM (F x) y) (by unfold maxLen;omega) (by omega) Hh8.out Hr8.out hz8 ?_;intro a9 c9 w9 hown9 hg9 hat9;have hneN:=zeS Hh8.out k08 (by decide);have hneQ:=zeS Hh8.out kQ8 (by decide);have k09:=k08.keptRow hg9 (Ne.symm hneN);have kQ9:=kQ8.keptRow hg9 (Ne.symm hneQ);have hB9:Below G w8 w9:=Below.grown (zF _ _) hg9 hz8 (fun r e=>(zbX Hh8.out e).1);have hB59:Below G W5 w9:=(hb58.mono hz5).trans hB9;have hKX8:KepX (fun k=>k=NB) wL w8:=KX5.trans (KepX.below hb58);have hKX9:KepX (fun k=>k=NB) wL w9:=hKX8.rowB hg9 (fun b e=>.inr (by rw[hG];exact(zbX Hh8.out e).1))
    have Hown9:Hid (w9.ownsRow G 78 16 (.slice a9 (k+1) c9) (k+1) (PCs ((l.take (k+1)).map F) (ys ++ [y]))):=zB (by
     rw[zoO Hx.out,List.map_append,List.map_cons,List.map_nil,PCs_snoc _ _ _ _ (by rw[hys,zaH,yJ];have:=Hnc.out;omega),HVS.out];exact hown9)
    have Hrob9:Hid (∀(j:Nat) (p:S14.P) (y':Lay),((l.take (k+1)).map F)[j]? = some p→(ys ++ [y])[j]? = some y'→PRobX (XNew w.heap.size NB (.slice a9 (k+1) c9)) p y' w9):=zB (fun j p y' h1 h2=>by
     have h8:PRobX (XNew w.heap.size NB (.slice a k c)) p y' w8:=by
      rw[zoO Hx.out,List.map_append,List.map_cons,List.map_nil]at h1;have hlk:((l.take k).map F).length=k:=by rw[zaH,yJ];have:=Hnc.out;omega
      rcases Nat.lt_trichotomy j k with hj|hj|hj
      ·rw[zaN (by omega)]at h1 h2;exact(Hrob5.out j p y' h1 h2).kep (KepX.below hb58)
      ·subst hj;rw[yQ (by omega),hlk,Nat.sub_self]at h1;rw[yQ (by omega),hys,Nat.sub_self]at h2;simp only[lgz,Option.some.injEq]at h1 h2;subst h1;subst h2;refine HY8.out.toX (fun b _ hb=>⟨zcA _,?_⟩);rcases hb with hb|rfl|hb
       ·omega
       ·omega
       ·have:=(Hown5.out.lt b hb).2;omega
      ·rw[yQ (by omega),yP (by simp;omega)]at h1;cases h1
     exact h8.append hg9 (fun b e=>.inr (.inr e)) (fun b hb hx=>by
      rcases hx with h|h|h
      ·exact .inl h
      ·exact .inr (.inl h)
      ·rcases hat9 with e|e
       ·exact .inr (.inr (e▸h))
       ·rw[e]at h;cases h;omega))
    have hz9:=hB59.size;clear hown9 hg9 hat9 hneN hneQ hKX8 HY8 Hrob5 Hown5 Hh8 Hr8;refine⟨⟨hB59,kQ9.cell 0,kQ9.cell 1,kQ9.cell 2,kQ9.cell 3,kQ9.cell 4,kQ9.cell 5,k09.cell 1,yF⟩,?_⟩;simp only[zuI];refine yE (hF.out _ _ (fun K hK=> ?_));clear hF hY;have f1:=k09.cell 1;have f1f:=k09.free 1;have EB':=k09.set 1 (.slice a9 (k+1) c9);simp only[sC0,sCs,lgz,lgs]at f1 EB';go_wp2_with fail;refine OnlyK.mk (hK.out _ _ ?_);clear hK;have hgs:=zbO w9 NB 1 (.slice a9 (k+1) c9);have hKX':=hKX9.trans (KepX.row hgs (fun b e=>.inl (zK e).symm));have Hown':=zB (zfV Hown9.out hgs hlN);have Hrob':=zB (show∀(j:Nat) (p:S14.P) (y':Lay),((l.take (k+1)).map F)[j]? = some p→(ys ++ [y])[j]? = some y'→PRobX (XNew w.heap.size NB (.slice a9 (k+1) c9)) p y' (w9.setCell ⟨NB,1,none⟩ (.slice a9 (k+1) c9))from fun j p y' h1 h2=>(Hrob9.out j p y' h1 h2).kep (KepX.row hgs (fun b e=>.inl (.inr (.inl (zK e).symm)))));generalize w9.setCell ⟨NB,1,none⟩ (.slice a9 (k+1) c9)=w10 at *;clear Hown9 Hrob9 hgs f1 f1f hKX9 k09 kQ9;go_wp2;go_roundw
    case rel=>exact⟨k+1,a9,c9,ys ++ [y],by omega,by simp,by rw[yN,hys];rfl,Hown',EB',hKX',Hrob'⟩
    case measure=>simp[intOf];omega
   ·obtain rfl:k=nc:=by omega
    obtain⟨hc1,hc2⟩:k≤c∧c≤maxLen:=by
     obtain⟨a0,c0,e,h1,h2⟩:=zaX hown.out;simp only[Value.slice.injEq]at e;omega
    have htk:l.take k=l:=zeM (by rw[Hnc.out];exact zD _);have k2r:=k2L.kepX hKX (by omega);rw[htk]at hown hrob;have hlm:(l.map F).length=k:=by rw[zaH];exact Hnc.out
    have hNI:∀W2,KepX (fun k=>k≤w.heap.size) wr W2→NIs ⟨l,l.map F,List.replicate 16 0,1⟩ ⟨some ⟨gC,0,none⟩,c1,a,c,some ⟨X,0,none⟩,16,ys⟩ W2:=fun W2 h2=>
     {rc:=(HrC.out.kepX hKX (fun g o e=>by cases e;exact hCN)).kepX h2 (fun g o e=>by cases e;omega)
      rp:=(Rd.of_owns hown.out).kepX h2 (fun g o e=>by
       have:=(hown.out.lt g (by rw[e];rfl)).1;omega)
      rx:=(show Rd wr (some ⟨X,0,none⟩) (zhJ (List.replicate 16 0))from fun _=>⟨X,0,rfl,(kXL.kepX hKX hXn).cells⟩).kepX h2 (fun g o e=>by cases e;omega)
      ly:=by rw[hys];exact hlm.symm
      ps:=fun j p y h1 h3=>((hrob.out j p y h1 h3).change (fun b _ hb=>.inl hb)).kep h2 |>.is
      xs:=fun x hx=>by have:=List.eq_of_mem_replicate hx;omega
      l1:=⟨by show l.length≤_;rw[Hnc.out];exact hCc.1,hCc.2⟩
      l2:=⟨by show(l.map F).length≤_;rw[hlm];exact hc1,hc2⟩
      l3:=⟨by simp,by simp⟩}
    have HPo:=HOP.out ⟨some ⟨gC,0,none⟩,c1,a,c,some ⟨X,0,none⟩,16,ys⟩ wr (fun k=>k≤w.heap.size) hBr (fun k e=>by have e:k≤w.heap.size:=e;omega) hNI (by
     show wr.ownsRow w.heap.size 78 16 (.slice a (l.map F).length c) (l.map F).length (PCs (l.map F) ys)
     rw[hlm];exact zcZ hown.out hzL) (fun j p y h1 h3=>(hrob.out j p y h1 h3).change (fun b _ hb=>by
      rcases hb with h|h
      ·exact .inl h
      ·refine .inr (.inr ?_);have h:(Value.slice a (l.map F).length c).ownBlock=some b:=h;rwa[hlm]at h)) (fun b hb=>by
      show¬b≤w.heap.size;have hb:(Value.slice a (l.map F).length c).ownBlock=some b:=hb;rw[hlm]at hb;have:=(hown.out.lt b hb).1;omega) (fun W2 h2=>by
      have h2:KepX (fun k=>k≤w.heap.size∨(Value.slice a (l.map F).length c).ownBlock=some k) wr W2:=h2;rw[hlm]at h2
      exact⟨(HrC.out.kepX hKX (fun g o e=>by cases e;exact hCN)).kepX h2 (fun g o e=>by cases e;exact fun h=>h.elim (fun h=>by have h:gC≤w.heap.size:=h;omega) (fun h=>by have:=(hown.out.lt _ h).1;omega)),
       (show Rd wr (some ⟨X,0,none⟩) (zhJ (List.replicate 16 0))from fun _=>⟨X,0,rfl,(kXL.kepX hKX hXn).cells⟩).kepX h2 (fun g o e=>by cases e;exact fun h=>h.elim (fun h=>by have h:X≤w.heap.size:=h;omega) (fun h=>by have:=(hown.out.lt _ h).1;omega))⟩)
    unfold NV zdN at HPo;simp only[hlm,Hnc.out,zaW]at HPo;have hfar:∀b,(Value.slice a k c).ownBlock=some b→G≤b:=fun b hb=>(hown.out.lt b hb).1;have Hfar:=zB hfar;clear hfar;have HPO:=zB HPo;clear HPo hNI hown hrob htk hKX;go_wp2_with (first
     | (refine yA 40 (.tmp 5) (by rfl) (by rfl) NB (by rfl) [.slice (some ⟨gC,0,none⟩) k c1,.slice a k c,.slice (some ⟨X,0,none⟩) 16 16,.int .i64 1] 40 EB _ Tryz.underlying40 rfl info_N ?_))
    refine HPO.out.mono ?_;rintro e w8 ⟨L',rfl,hN',hb8⟩;have HN':=zB hN';have k28:=k2r.kepX hb8 (fun hx=>by have:=Hfar.out _ hx;omega);have B8:=hb8.toBelow hBr (fun b hb=>by have:=Hfar.out _ hb;omega);clear hN' k2r hb8 EB hBr;go_wp2_with (first
     | (refine zT 40 (.tmp 2) (.tmp 34) (by rfl) (by rfl) w.heap.size (by rfl) [.slice L'.a1 N'.comps.length L'.c1,.slice L'.a2 N'.parts.length L'.c2,.slice L'.a3 N'.ctxs.length L'.c3,.int .i64 N'.part] (by rfl) _ 40 k28 info_N rfl (by simp[Value.oneCell']) ?_;intro wM EM gM sM))
    have hL:=run_loadVar_mid wM _ 0 _ _ _ EM.cells Tryz.underlying40 rfl info_N;refine bodyPost_ret (v:=.tuple #[.agg #[.slice L'.a1 N'.comps.length L'.c1,.slice L'.a2 N'.parts.length L'.c2,.slice L'.a3 N'.ctxs.length L'.c3,.int .i64 N'.part],.int .i64 0]) ?_ rfl ?_
    ·exact zaI (show Tryz.f13.results = #[.cell 2 40,.tmp 3]from rfl) (p:=⟨w.heap.size,0,none⟩) rfl rfl hL
    ·exact⟨L',rfl,fun W hW=>HN'.out W ((KepX.row gM (fun b e=>.inl (by show _≤_;have:=zK e;omega))).trans (hW.mono (fun b _ h=>by show _≤_;have h:b<w.heap.size:=h;omega))),B8.trans (yG gM (zD _) B8.size)⟩
 have b0:Below w2.heap.size w2 w2.drew:=(zF _ _).drew;obtain⟨u0,hu0⟩:∃v,w2.drew=v:=⟨_,rfl⟩;rw[hu0]at b0⊢;have hzz:w2.heap.size=u0.heap.size:=by rw[←hu0];rfl
 refine zaT ?_ (zaT ?_ ?_)
 ·skip
  apply yH (by rw[hY];rfl)
  ·go_simp;with_reducible exact⟨rfl,rfl⟩
  refine(HCl.out _ (zA B2 b0)).mono ?_;rintro e u1 ⟨q1,c1,rfl,own1,hbC⟩;have b1:Below w2.heap.size w2 u1:=zA b0 hbC;have ownC:=zB own1;have zC:w2.heap.size≤u0.heap.size:=b0.size;have zzC:=hbC.size;clear own1;refine⟨_,rfl,b1,?_⟩;simp only[zuI];refine zaT ?_ ?_
  ·skip
   have hmk:=mk16 u1;have b2:Below w2.heap.size w2 (u1.alloc (.cells (List.replicate 16 (.int .u32 0)).toArray 44)):=b1.alloc b1.size _;refine yR (by rw[hY];rfl) (by go_simp;first|with_reducible exact⟨rfl,rfl⟩|with_reducible rfl) (b2) ?_;simp only[zuI];obtain⟨u2,hu2⟩:∃v,u1.alloc (.cells (List.replicate 16 (.int .u32 0)).toArray 44)=v:=⟨_,rfl⟩;have kX:Blk u2 u1.heap.size (List.replicate 16 (.int .u32 0)) 44:=by rw[←hu2];exact Blk.new u1 _ _
   have zX:w2.heap.size≤u1.heap.size:=b1.size;have lX:=kX.lt;have hbE:Below u1.heap.size u1 u2:=by rw[←hu2];exact(zF _ _).alloc (zD _) _
   have ownC:=zB (yX (B:=0) ownC.out hbE);have hszu2:u2.heap.size=u1.heap.size+1:=by rw[←hu2];simp
   try rw[hu2]at b2⊢
   repeat
    apply zU (by rw[hY];rfl)
    ·intro w2 hS2;(try simp only[Keeps,Cells]at hS2);go_simp;with_reducible rfl
    simp only[zuI]
   have b3:Below w2.heap.size w2 (u2.alloc (.cells zN 40)):=b2.alloc b2.size _;refine yR (by rw[hY];rfl) (by go_simp;first|with_reducible exact⟨rfl,rfl⟩|with_reducible rfl) (b3) ?_;simp only[zuI];obtain⟨u3,hu3⟩:∃v,u2.alloc (.cells zN 40)=v:=⟨_,rfl⟩;have kN:Blk u3 u2.heap.size [.slice none 0 0,.slice none 0 0,.slice none 0 0,.int .i64 0] 40:=by rw[←hu3];exact Blk.new u2 _ _
   have zN1:w2.heap.size≤u2.heap.size:=b2.size;have lN:=kN.lt;have hbE:Below u2.heap.size u2 u3:=by rw[←hu3];exact(zF _ _).alloc (zD _) _
   have ownC:=zB (yX (B:=0) ownC.out hbE);have kX:=kX.step hbE;have hszu3:u3.heap.size=u2.heap.size+1:=by rw[←hu3];simp
   try rw[hu3]at b3⊢
   refine yY (fin q1 c1 _ _ _ b3 (zcZ ownC.out ?_) (by first|exact kX|(rw[hszu2]at kX;exact kX)|(rw[hszu1]at kX;exact kX)) (by first|exact kN|(rw[hszu2]at kN;exact kN)|(rw[hszu1]at kN;exact kN)) ?_ ?_ ?_);all_goals first|omega|(simp at *;omega)
  ·skip
   have b2:Below w2.heap.size w2 (u1.alloc (.cells zN 40)):=b1.alloc b1.size _;refine yR (by rw[hY];rfl) (by go_simp;first|with_reducible exact⟨rfl,rfl⟩|with_reducible rfl) (b2) ?_;simp only[zuI];obtain⟨u2,hu2⟩:∃v,u1.alloc (.cells zN 40)=v:=⟨_,rfl⟩;have kN:Blk u2 u1.heap.size [.slice none 0 0,.slice none 0 0,.slice none 0 0,.int .i64 0] 40:=by rw[←hu2];exact Blk.new u1 _ _
   have zN1:w2.heap.size≤u1.heap.size:=b1.size;have lN:=kN.lt;have hbE:Below u1.heap.size u1 u2:=by rw[←hu2];exact(zF _ _).alloc (zD _) _
   have ownC:=zB (yX (B:=0) ownC.out hbE);have hszu2:u2.heap.size=u1.heap.size+1:=by rw[←hu2];simp
   try rw[hu2]at b2⊢
   have hmk:=mk16 u2;have b3:Below w2.heap.size w2 (u2.alloc (.cells (List.replicate 16 (.int .u32 0)).toArray 44)):=b2.alloc b2.size _;refine yR (by rw[hY];rfl) (by go_simp;first|with_reducible exact⟨rfl,rfl⟩|with_reducible rfl) (b3) ?_;simp only[zuI];obtain⟨u3,hu3⟩:∃v,u2.alloc (.cells (List.replicate 16 (.int .u32 0)).toArray 44)=v:=⟨_,rfl⟩;have kX:Blk u3 u2.heap.size (List.replicate 16 (.int .u32 0)) 44:=by rw[←hu3];exact Blk.new u2 _ _
   have zX:w2.heap.size≤u2.heap.size:=b2.size;have lX:=kX.lt;have hbE:Below u2.heap.size u2 u3:=by rw[←hu3];exact(zF _ _).alloc (zD _) _
   have ownC:=zB (yX (B:=0) ownC.out hbE);have kN:=kN.step hbE;have hszu3:u3.heap.size=u2.heap.size+1:=by rw[←hu3];simp
   try rw[hu3]at b3⊢
   repeat
    apply zU (by rw[hY];rfl)
    ·intro w2 hS2;(try simp only[Keeps,Cells]at hS2);go_simp;with_reducible rfl
    simp only[zuI]
   refine yY (fin q1 c1 _ _ _ b3 (zcZ ownC.out ?_) (by first|exact kX|(rw[hszu2]at kX;exact kX)|(rw[hszu1]at kX;exact kX)) (by first|exact kN|(rw[hszu2]at kN;exact kN)|(rw[hszu1]at kN;exact kN)) ?_ ?_ ?_);all_goals first|omega|(simp at *;omega)
 ·skip
  have hmk:=mk16 u0;have b1:Below w2.heap.size w2 (u0.alloc (.cells (List.replicate 16 (.int .u32 0)).toArray 44)):=b0.alloc b0.size _;refine yR (by rw[hY];rfl) (by go_simp;first|with_reducible exact⟨rfl,rfl⟩|with_reducible rfl) (b1) ?_;simp only[zuI];obtain⟨u1,hu1⟩:∃v,u0.alloc (.cells (List.replicate 16 (.int .u32 0)).toArray 44)=v:=⟨_,rfl⟩;have kX:Blk u1 u0.heap.size (List.replicate 16 (.int .u32 0)) 44:=by rw[←hu1];exact Blk.new u0 _ _
  have zX:w2.heap.size≤u0.heap.size:=b0.size;have lX:=kX.lt;have hbE:Below u0.heap.size u0 u1:=by rw[←hu1];exact(zF _ _).alloc (zD _) _
  have hszu1:u1.heap.size=u0.heap.size+1:=by rw[←hu1];simp
  try rw[hu1]at b1⊢
  refine zaT ?_ ?_
  ·skip
   apply yH (by rw[hY];rfl)
   ·go_simp;with_reducible exact⟨rfl,rfl⟩
   refine(HCl.out _ (zA B2 b1)).mono ?_;rintro e u2 ⟨q1,c1,rfl,own1,hbC⟩;have b2:Below w2.heap.size w2 u2:=zA b1 hbC;have ownC:=zB own1;have zC:w2.heap.size≤u1.heap.size:=b1.size;have zzC:=hbC.size;clear own1;have kX:=kX.step hbC;refine⟨_,rfl,b2,?_⟩;simp only[zuI]
   repeat
    apply zU (by rw[hY];rfl)
    ·intro w2 hS2;(try simp only[Keeps,Cells]at hS2);go_simp;with_reducible rfl
    simp only[zuI]
   have b3:Below w2.heap.size w2 (u2.alloc (.cells zN 40)):=b2.alloc b2.size _;refine yR (by rw[hY];rfl) (by go_simp;first|with_reducible exact⟨rfl,rfl⟩|with_reducible rfl) (b3) ?_;simp only[zuI];obtain⟨u3,hu3⟩:∃v,u2.alloc (.cells zN 40)=v:=⟨_,rfl⟩;have kN:Blk u3 u2.heap.size [.slice none 0 0,.slice none 0 0,.slice none 0 0,.int .i64 0] 40:=by rw[←hu3];exact Blk.new u2 _ _
   have zN1:w2.heap.size≤u2.heap.size:=b2.size;have lN:=kN.lt;have hbE:Below u2.heap.size u2 u3:=by rw[←hu3];exact(zF _ _).alloc (zD _) _
   have kX:=kX.step hbE;have ownC:=zB (yX (B:=0) ownC.out hbE);have hszu3:u3.heap.size=u2.heap.size+1:=by rw[←hu3];simp
   try rw[hu3]at b3⊢
   refine yY (fin q1 c1 _ _ _ b3 (zcZ ownC.out ?_) (by first|exact kX|(rw[hszu2]at kX;exact kX)|(rw[hszu1]at kX;exact kX)) (by first|exact kN|(rw[hszu2]at kN;exact kN)|(rw[hszu1]at kN;exact kN)) ?_ ?_ ?_);all_goals first|omega|(simp at *;omega)
  ·skip
   have b2:Below w2.heap.size w2 (u1.alloc (.cells zN 40)):=b1.alloc b1.size _;refine yR (by rw[hY];rfl) (by go_simp;first|with_reducible exact⟨rfl,rfl⟩|with_reducible rfl) (b2) ?_;simp only[zuI];obtain⟨u2,hu2⟩:∃v,u1.alloc (.cells zN 40)=v:=⟨_,rfl⟩;have kN:Blk u2 u1.heap.size [.slice none 0 0,.slice none 0 0,.slice none 0 0,.int .i64 0] 40:=by rw[←hu2];exact Blk.new u1 _ _
   have zN1:w2.heap.size≤u1.heap.size:=b1.size;have lN:=kN.lt;have hbE:Below u1.heap.size u1 u2:=by rw[←hu2];exact(zF _ _).alloc (zD _) _
   have kX:=kX.step hbE;have hszu2:u2.heap.size=u1.heap.size+1:=by rw[←hu2];simp
   try rw[hu2]at b2⊢
   apply yH (by rw[hY];rfl)
   ·go_simp;with_reducible exact⟨rfl,rfl⟩
   refine(HCl.out _ (zA B2 b2)).mono ?_;rintro e u3 ⟨q1,c1,rfl,own1,hbC⟩;have b3:Below w2.heap.size w2 u3:=zA b2 hbC;have ownC:=zB own1;have zC:w2.heap.size≤u2.heap.size:=b2.size;have zzC:=hbC.size;clear own1;have kX:=kX.step hbC;have kN:=kN.step hbC;refine⟨_,rfl,b3,?_⟩;simp only[zuI]
   repeat
    apply zU (by rw[hY];rfl)
    ·intro w2 hS2;(try simp only[Keeps,Cells]at hS2);go_simp;with_reducible rfl
    simp only[zuI]
   refine yY (fin q1 c1 _ _ _ b3 (zcZ ownC.out ?_) (by first|exact kX|(rw[hszu2]at kX;exact kX)|(rw[hszu1]at kX;exact kX)) (by first|exact kN|(rw[hszu2]at kN;exact kN)|(rw[hszu1]at kN;exact kN)) ?_ ?_ ?_);all_goals first|omega|(simp at *;omega)
 ·skip
  have b1:Below w2.heap.size w2 (u0.alloc (.cells zN 40)):=b0.alloc b0.size _;refine yR (by rw[hY];rfl) (by go_simp;first|with_reducible exact⟨rfl,rfl⟩|with_reducible rfl) (b1) ?_;simp only[zuI];obtain⟨u1,hu1⟩:∃v,u0.alloc (.cells zN 40)=v:=⟨_,rfl⟩;have kN:Blk u1 u0.heap.size [.slice none 0 0,.slice none 0 0,.slice none 0 0,.int .i64 0] 40:=by rw[←hu1];exact Blk.new u0 _ _
  have zN1:w2.heap.size≤u0.heap.size:=b0.size;have lN:=kN.lt;have hbE:Below u0.heap.size u0 u1:=by rw[←hu1];exact(zF _ _).alloc (zD _) _
  have hszu1:u1.heap.size=u0.heap.size+1:=by rw[←hu1];simp
  try rw[hu1]at b1⊢
  refine zaT ?_ ?_
  ·skip
   apply yH (by rw[hY];rfl)
   ·go_simp;with_reducible exact⟨rfl,rfl⟩
   refine(HCl.out _ (zA B2 b1)).mono ?_;rintro e u2 ⟨q1,c1,rfl,own1,hbC⟩;have b2:Below w2.heap.size w2 u2:=zA b1 hbC;have ownC:=zB own1;have zC:w2.heap.size≤u1.heap.size:=b1.size;have zzC:=hbC.size;clear own1;have kN:=kN.step hbC;refine⟨_,rfl,b2,?_⟩;simp only[zuI];have hmk:=mk16 u2;have b3:Below w2.heap.size w2 (u2.alloc (.cells (List.replicate 16 (.int .u32 0)).toArray 44)):=b2.alloc b2.size _;refine yR (by rw[hY];rfl) (by go_simp;first|with_reducible exact⟨rfl,rfl⟩|with_reducible rfl) (b3) ?_;simp only[zuI];obtain⟨u3,hu3⟩:∃v,u2.alloc (.cells (List.replicate 16 (.int .u32 0)).toArray 44)=v:=⟨_,rfl⟩;have kX:Blk u3 u2.heap.size (List.replicate 16 (.int .u32 0)) 44:=by rw[←hu3];exact Blk.new u2 _ _
   have zX:w2.heap.size≤u2.heap.size:=b2.size;have lX:=kX.lt;have hbE:Below u2.heap.size u2 u3:=by rw[←hu3];exact(zF _ _).alloc (zD _) _
   have kN:=kN.step hbE;have ownC:=zB (yX (B:=0) ownC.out hbE);have hszu3:u3.heap.size=u2.heap.size+1:=by rw[←hu3];simp
   try rw[hu3]at b3⊢
   repeat
    apply zU (by rw[hY];rfl)
    ·intro w2 hS2;(try simp only[Keeps,Cells]at hS2);go_simp;with_reducible rfl
    simp only[zuI]
   refine yY (fin q1 c1 _ _ _ b3 (zcZ ownC.out ?_) (by first|exact kX|(rw[hszu2]at kX;exact kX)|(rw[hszu1]at kX;exact kX)) (by first|exact kN|(rw[hszu2]at kN;exact kN)|(rw[hszu1]at kN;exact kN)) ?_ ?_ ?_);all_goals first|omega|(simp at *;omega)
  ·skip
   have hmk:=mk16 u1;have b2:Below w2.heap.size w2 (u1.alloc (.cells (List.replicate 16 (.int .u32 0)).toArray 44)):=b1.alloc b1.size _;refine yR (by rw[hY];rfl) (by go_simp;first|with_reducible exact⟨rfl,rfl⟩|with_reducible rfl) (b2) ?_;simp only[zuI];obtain⟨u2,hu2⟩:∃v,u1.alloc (.cells (List.replicate 16 (.int .u32 0)).toArray 44)=v:=⟨_,rfl⟩;have kX:Blk u2 u1.heap.size (List.replicate 16 (.int .u32 0)) 44:=by rw[←hu2];exact Blk.new u1 _ _
   have zX:w2.heap.size≤u1.heap.size:=b1.size;have lX:=kX.lt;have hbE:Below u1.heap.size u1 u2:=by rw[←hu2];exact(zF _ _).alloc (zD _) _
   have kN:=kN.step hbE;have hszu2:u2.heap.size=u1.heap.size+1:=by rw[←hu2];simp
   try rw[hu2]at b2⊢
   apply yH (by rw[hY];rfl)
   ·go_simp;with_reducible exact⟨rfl,rfl⟩
   refine(HCl.out _ (zA B2 b2)).mono ?_;rintro e u3 ⟨q1,c1,rfl,own1,hbC⟩;have b3:Below w2.heap.size w2 u3:=zA b2 hbC;have ownC:=zB own1;have zC:w2.heap.size≤u2.heap.size:=b2.size;have zzC:=hbC.size;clear own1;have kN:=kN.step hbC;have kX:=kX.step hbC;refine⟨_,rfl,b3,?_⟩;simp only[zuI]
   repeat
    apply zU (by rw[hY];rfl)
    ·intro w2 hS2;(try simp only[Keeps,Cells]at hS2);go_simp;with_reducible rfl
    simp only[zuI]
   refine yY (fin q1 c1 _ _ _ b3 (zcZ ownC.out ?_) (by first|exact kX|(rw[hszu2]at kX;exact kX)|(rw[hszu1]at kX;exact kX)) (by first|exact kN|(rw[hszu2]at kN;exact kN)|(rw[hszu1]at kN;exact kN)) ?_ ?_ ?_);all_goals first|omega|(simp at *;omega)
theorem zaA{P:Program}{Y:Array Value→Nat→Option Bool}{Q:Exit→Act→World→Prop}{S:World→Prop}{G:Act→World→Prop}{w:World}{rest:Plan Oper}{o:Oper}{a:Act}(T:TypeId)(x y:Operand)(ho:o.op = .store T x y)(hw:Region.wanted o (Y a.tmps)=true)
 (b:Nat) (hx:a.eval x = .pointer (some ⟨b,0,none⟩)) (cs:List Value) (hy:a.eval y = .agg cs.toArray) (old:List Value) (t:TypeId) (hB:Blk w b old t) (hi:(P.info? T).map (·.size)=some cs.length) (hold:old.length=cs.length)
 (h1:∀v∈cs,v.oneCell'=true) (h:∀w',Blk w' b cs t→w.grownBy w' (some b)→w'.heap.size=w.heap.size→S w'∧zbP P Y Q S G rest (a.put o.dst undef) w'):zbP P Y Q S G (.one o rest) a w:=by
 obtain⟨k1,k2⟩:=zrT hB cs.toArray;unfold zbP;rw[zO hw];refine .inl (wp_store_row T x y ho b cs.toArray hx hy t old.toArray hB (by simpa using hi) (by simpa using hold) (all_oneCell_toArray h1) (h _ ?_ k2 ?_))
 ·simpa using k1
 ·simp[World.setRow]
def ziP{α:Type}(xs:List α)(o:Nat)(vs:List α):List α:=xs.take o++(vs++xs.drop (o+vs.length))
theorem zhR{α:Type}(xs:List α)(o:Nat)(vs:List α)(h:o+vs.length≤xs.length):(ziP xs o vs).length=xs.length:=by
 unfold ziP;simp;omega
theorem zhG{b:Nat}{e:TypeId}{fz:Nat×Nat}:∀(vs:List Value) (o:Nat) (w:World) (cur:Array Value),w.heap[b]? = some (.cells cur e fz)→∃cur',(w.setCells b o vs).heap[b]? = some (.cells cur' e fz)∧cur'.size=cur.size
 | [],_,_,cur,h=>⟨cur,h,rfl⟩
 | v::vs,o,w,cur,h=>by
   obtain⟨c1,h1,h2⟩:∃c1,(w.setCell ⟨b,o,none⟩ v).heap[b]? = some (.cells c1 e fz)∧c1.size=cur.size:=by
    unfold World.setCell;simp only[h];have hlt:=(Array.getElem?_eq_some_iff.1 h).1;refine⟨cur.setIfInBounds o v,?_,by simp⟩;simp only[Array.getElem?_modify,h,if_true,Option.map_some];rfl
   obtain⟨c2,h3,h4⟩:=zhG vs (o+1) _ c1 h1;exact⟨c2,h3,h4.trans h2⟩
theorem yZ(b:Nat):∀(vs:List Value) (o:Nat) (w:World),w.grownBy (w.setCells b o vs) (some b)
 | [],_,w=>⟨rfl,rfl,rfl,zD _,fun _ _ _=>rfl⟩
 | v::vs,o,w=>(zbO w b o v).trans (yZ b vs (o+1) _)
theorem zfS{w:World}{base:Nat}{e:TypeId}{size n cap g:Nat}{xs:List Value}(h:w.ownsRow base e size (.slice (some ⟨g,0,none⟩) n cap) n xs){o k:Nat}(ho:o+k≤n*size):w.there g o k:=by
 rcases h.2 with⟨e1,_⟩|⟨g2,cap',cur,e1,hb,hg,hn,hc,hsz,htk⟩
 ·simp at e1
 ·simp only[Value.slice.injEq,Option.some.injEq]at e1;obtain⟨e1,-,rfl⟩:=e1;cases e1;intro j hj;have hlt:o+j<cur.size:=by
   rw[hsz];have:=yW size hn;omega
  refine⟨?_,frozen_of_row w g _ cur e hg⟩;rw[cell_of_row w g (o+j) cur e _ hg,Array.getElem?_eq_getElem hlt];rfl
theorem zkC{w:World}{base:Nat}{e:TypeId}{size n cap g:Nat}{xs:List Value}(h:w.ownsRow base e size (.slice (some ⟨g,0,none⟩) n cap) n xs){o:Nat}{vs:List Value}(ho:o+vs.length≤n*size) :
 (w.setCells g o vs).ownsRow base e size (.slice (some ⟨g,0,none⟩) n cap) n (ziP xs o vs):=by
 have hth:=zfS h ho;have hlen:=h.1;refine⟨(zhR xs o vs (by omega)).trans hlen,?_⟩;rcases h.2 with⟨e1,_⟩|⟨g2,cap',cur,e1,hb,hg,hn,hc,hsz,htk⟩
 ·simp at e1
 ·simp only[Value.slice.injEq,Option.some.injEq]at e1;obtain⟨e1,-,rfl⟩:=e1;cases e1;obtain⟨cur',h1,h2⟩:=zhG vs o w cur hg;refine .inr ⟨g,cap,cur',rfl,hb,h1,hn,hc,h2.trans hsz,?_⟩
  have hcur:∀i,i<n*size→cur[i]? = xs[i]? :=fun i hi=>by
   rw[←htk,List.getElem?_take_of_lt hi,Array.getElem?_toList]
  have hnew:∀i,cur'[i]? = (w.setCells g o vs).cell? ⟨g,i,none⟩:=fun i=>(cell_of_row _ g i cur' e _ h1).symm;apply List.ext_getElem?;intro i;by_cases hi:i<n*size
  ·rw[List.getElem?_take_of_lt hi,Array.getElem?_toList,hnew];unfold ziP;by_cases h3:i<o
   ·rw[zaN (by rw[yJ];omega),List.getElem?_take_of_lt h3,←hcur i hi,←cell_of_row w g i cur e _ hg];exact World.cell?_setCells_out g vs o w ⟨g,i,none⟩ (fun _ _=>.inl h3)
   ·rw[yQ (by rw[yJ];omega),yJ,zbF (by omega)];by_cases h4:i<o+vs.length
    ·rw[zaN (by omega)];have:=World.rangeAt_setCells_same w g o vs hth (i-o) _ (zE (by omega));rw[show o+(i-o)=i by omega]at this;rw[this,zE (by omega)]
    ·rw[yQ (by omega),List.getElem?_drop,show o+vs.length+(i-o-vs.length)=i by omega,←hcur i hi,←cell_of_row w g i cur e _ hg];exact World.cell?_setCells_out g vs o w ⟨g,i,none⟩ (fun _ _=>.inr (by show o+vs.length≤i;omega))
  ·rw[yP (by rw[yJ];omega),yP (by rw[zhR xs o vs (by omega)];omega)]
theorem PCs_put:∀(ps:List S14.P) (ys:List Lay) (k:Nat) (p:S14.P) (y:Lay),ys.length=ps.length→k<ps.length→PCs (ps.set k p) (ys.set k y)=ziP (PCs ps ys) (k*16) (yL p y)
 | [],_,_,_,_,_,hk=>by simp at hk
 | _::_,[],_,_,_,h,_=>by simp at h
 | q::ps,z::ys,0,p,y,_,_=>by
   show yL p y++PCs ps ys=ziP (yL q z++PCs ps ys) (0*16) (yL p y);unfold ziP;rw[Nat.zero_mul,List.take_zero,List.nil_append,yK,zbE,List.drop_append,zbE,Nat.sub_self,List.drop_zero,List.drop_of_length_le (by rw[zbE];exact zD _),List.nil_append]
 | q::ps,z::ys,k+1,p,y,h,hk=>by
   show yL q z++PCs (ps.set k p) (ys.set k y)=ziP (yL q z++PCs ps ys) ((k+1)*16) (yL p y);rw[PCs_put ps ys k p y (by simpa using h) (by simpa using hk)];unfold ziP;have e1:(yL q z).take ((k+1)*16)=yL q z:=zeM (by rw[zbE];omega);have e2:(yL q z).drop ((k+1)*16+16) = []:=List.drop_of_length_le (by rw[zbE];omega);rw[zbE p y,List.take_append,List.drop_append,e1,e2,zbE q z,List.nil_append,zcU,show(k+1)*16-16=k*16 by omega,show(k+1)*16+16-16=k*16+16 by omega]
def LearnF(c:S14.C):FuncId:=
 if c.kind=0 then 103 else if c.kind=1 then 115 else if c.kind=2 then 144 else if c.kind=3 then 160 else if c.kind=4 then 189 else if c.kind=5 then 197 else 217
def S14.parts1(G:Nat→S14.P)(ps:List S14.P):Nat→List S14.P
 | 0=>ps
 | k+1=>(S14.parts1 G ps k).set k (G k)
theorem S14.parts1_length(G:Nat→S14.P)(ps:List S14.P):∀k,(S14.parts1 G ps k).length=ps.length
 | 0=>rfl
 | k+1=>by rw[S14.parts1,yT,S14.parts1_length G ps k]
theorem S14.outs_take(O:Nat→List Int→Int)(k:Nat):∀n,k≤n→(S14.outs O n).take k=S14.outs O k
 | 0,h=>by obtain rfl:k=0:=by omega
           rfl
 | n+1,h=>by
   by_cases e:k=n+1
   ·subst e;exact zeM (by rw[S14.outs_length];exact zD _)
   ·rw[S14.outs,List.take_append_of_le_length (by rw[S14.outs_length];omega)];exact S14.outs_take O k n (by omega)
theorem Rd.take14{w:World}{a:Option Addr}{vals:List Value}(h:Rd w a vals)(k:Nat):Rd w a (vals.take k):=fun hn=>by
 obtain⟨g,o,e,hr⟩:=h (fun e=>hn (by rw[e,List.take_nil]));refine⟨g,o,e,fun j v hv=> ?_⟩;rw[zbG]at hv;split at hv
 ·exact hr j v hv
 ·cases hv
theorem zdG{X:Nat→Prop}{w w':World}{base:Nat}{e:TypeId}{size n:Nat}{v:Value}{xs:List Value}(h:w.ownsRow base e size v n xs)(hk:KepX X w w')(hx:∀g,v.ownBlock=some g→¬X g):w'.ownsRow base e size v n xs:=by
 refine⟨h.1,?_⟩;rcases h.2 with h'|⟨g,cap',cur,h',hb',hg',r⟩
 ·exact .inl h'
 ·exact .inr ⟨g,cap',cur,h',hb',(hk.same g (hx g (by rw[h'];rfl)) (Array.getElem?_eq_some_iff.1 hg').1).trans hg',r⟩
theorem zdQ{w:World}{base:Nat}{e:TypeId}{size n cap:Nat}{a:Option Addr}{xs:List Value}(h:w.ownsRow base e size (.slice a n cap) n xs)(hn:1≤n):∃g,a=some ⟨g,0,none⟩∧base≤g∧g<w.heap.size∧n≤cap∧cap≤maxLen:=by
 rcases h.2 with⟨h',h2⟩|⟨g,cap',cur,h',hb',hg',h3,h4,_⟩
 ·omega
 ·simp only[Value.slice.injEq]at h';obtain⟨rfl,_,rfl⟩:=h';exact⟨g,rfl,hb',(Array.getElem?_eq_some_iff.1 hg').1,h3,h4⟩
theorem zhT{w:World}{base base':Nat}{e e':TypeId}{size n cap size' n' cap' g g' o o':Nat}{xs xs':List Value}(h:w.ownsRow base e size (.slice (some ⟨g,o,none⟩) n cap) n xs)(h':w.ownsRow base' e' size' (.slice (some ⟨g',o',none⟩) n' cap') n' xs')(hne:¬e=e'):g≠g':=by
 intro hg;subst hg;obtain⟨_,c1,h1⟩:=zbX h rfl;obtain⟨_,c2,h2⟩:=zbX h' rfl;rw[h1]at h2;cases h2;exact hne rfl
def S14.next(p bit:Int):Int:=if 2*p+bit>255 then 1 else 2*p+bit
def S14.opens(p:Int):Prop:=p=1∨16≤p∧p≤31
theorem zjO(v:Value)(w:World):(nilAhead 371 111 v "compactor/network.learn").run Tryz.prog w = .ok (some false) w:=by kernel_rfl
theorem zkH(v:Value)(w:World):(method 371 111 v "compactor/network.learn").run Tryz.prog w = .ok (103,v) w:=by kernel_rfl
theorem zmL(v:Value)(w:World):(nilAhead 371 112 v "compactor/network.learn").run Tryz.prog w = .ok (some false) w:=by kernel_rfl
theorem znT(v:Value)(w:World):(method 371 112 v "compactor/network.learn").run Tryz.prog w = .ok (115,v) w:=by kernel_rfl
theorem zkZ(v:Value)(w:World):(nilAhead 371 113 v "compactor/network.learn").run Tryz.prog w = .ok (some false) w:=by kernel_rfl
theorem zlV(v:Value)(w:World):(method 371 113 v "compactor/network.learn").run Tryz.prog w = .ok (144,v) w:=by kernel_rfl
theorem zkY(v:Value)(w:World):(nilAhead 371 114 v "compactor/network.learn").run Tryz.prog w = .ok (some false) w:=by kernel_rfl
theorem zlU(v:Value)(w:World):(method 371 114 v "compactor/network.learn").run Tryz.prog w = .ok (160,v) w:=by kernel_rfl
theorem zlA(v:Value)(w:World):(nilAhead 371 115 v "compactor/network.learn").run Tryz.prog w = .ok (some false) w:=by kernel_rfl
theorem zlW(v:Value)(w:World):(method 371 115 v "compactor/network.learn").run Tryz.prog w = .ok (189,v) w:=by kernel_rfl
theorem zoC(v:Value)(w:World):(nilAhead 371 116 v "compactor/network.learn").run Tryz.prog w = .ok (some false) w:=by kernel_rfl
theorem zpP(v:Value)(w:World):(method 371 116 v "compactor/network.learn").run Tryz.prog w = .ok (197,v) w:=by kernel_rfl
theorem zkX(v:Value)(w:World):(nilAhead 371 117 v "compactor/network.learn").run Tryz.prog w = .ok (some false) w:=by kernel_rfl
theorem zlT(v:Value)(w:World):(method 371 117 v "compactor/network.learn").run Tryz.prog w = .ok (217,v) w:=by kernel_rfl
def cK:S14.C:=⟨0,0,3072,0,0,0⟩
def cD:S14.C:=⟨1,0,255,0,0,0⟩
def cA:S14.C:=⟨4,0,128,0,0,1⟩
def zmN(N:S14.N)(L:NLay)(w:World)(O:Nat→List Int→Int)(G:Nat→S14.P)(bit:Int):Prop:=
 ∀(k:Nat) (c:S14.C),N.comps[k]? = some c→∀(a:Option Addr) (W:World),Below w.heap.size w W→Rd W a (zaK (S14.outs O k))→
  Calls Tryz.prog (LearnF c) #[CV c,VV N L k (.slice a k k),.int .i64 bit] W fun e w'=>∃y,e = .returned (.tuple #[PV (G k) y,.int .i64 0])∧PRob 0 W.heap.size (G k) y w'∧Below W.heap.size W w'
theorem ztR(N N2:S14.N)(L:NLay)(O:Nat→List Int→Int)(G:Nat→S14.P)(bit:Int)(w:World)(hN:NIs N L w)(HR:zfP N L w)(h0:S14.checkNet N=0)(HK:zhE N L w O)(hb:bit=0∨bit=1)(HL:zmN N L w O G bit)
 (HOp1:S14.opens (S14.next N.part bit)→ziH w ⟨N.comps,S14.parts1 G N.parts N.comps.length,N.ctxs,S14.next N.part bit⟩ N2) (HOp0:¬S14.opens (S14.next N.part bit)→N2=⟨N.comps,S14.parts1 G N.parts N.comps.length,N.ctxs,S14.next N.part bit⟩) :
 Calls Tryz.prog 19 #[NV N L,.int .i64 bit] w fun e w'=>∃L',e = .returned (.tuple #[NV N2 L',.int .i64 0])∧(∀W,KepX (fun k=>k<w.heap.size) w' W→NIs N2 L' W)∧Below w.heap.size w w':=by
 obtain⟨hck,hpl,hxl,hp1,hp2,_⟩:=S14.checkNet_zero h0;obtain⟨hl0,hl,hok⟩:=S14.check_zero hck;have hk6:=S14.kinds_of hck;obtain⟨W1,hW1⟩:∃W1,(w.alloc (.cells (zdN N L).toArray 40)).alloc (.cells zN 40)=W1:=⟨_,rfl⟩;have k1:Blk W1 w.heap.size (zdN N L) 40:=by rw[←hW1];exact(Blk.new w _ _).alloc _
 have r1:Blk W1 (w.heap.size+1) [.slice none 0 0,.slice none 0 0,.slice none 0 0,.int .i64 0] 40:=by
  rw[←hW1];have h:=Blk.new (w.alloc (.cells (zdN N L).toArray 40)) [.slice none 0 0,.slice none 0 0,.slice none 0 0,.int .i64 0] 40;rwa[zV]at h
 have B1:Below w.heap.size w W1:=by rw[←hW1];exact((zF _ _).alloc (zD _) _).alloc (by simp) _
 have HC:=zB (zhV N L O W1 (hN.step B1) (fun k c p y h1 h2 h3 h4 W hW=>HR k c p y h1 h2 h3 h4 W (zA B1 hW)) h0 (fun k c h bef a W' h1=>HK k c h bef a W' (zA B1 h1)));have HCp:=zB fun(W:World) (hW:Below w.heap.size w W)=>znL N L W (hN.step hW) ⟨hl0,hl⟩ hpl hxl;have HBw:=zB fun W=>zbA bit 0 1 W;have hbt:S14.has bit 0 1=true:=by rcases hb with rfl|rfl<;>rfl
 rw[hbt]at HBw;have HO:=zB fun(x:S14.C) W=>(show Calls Tryz.prog 26 #[.agg #[.int .i64 x.kind,.int .i64 x.bits,.int .i64 x.limit,.int .i64 x.rate,.int .i64 x.first,.int .i64 x.second]] W _ from ziL x W);have HN:=zB hN;have HLH:=zB HL;have HP1:=zB HOp1;have HP0:=zB HOp0;have Hk6:=zB hk6;have Hpp:=zB (show 1≤N.part∧N.part≤255 from⟨hp1,hp2⟩);have Hb01:=zB hb;unfold zN at hW1;obtain⟨g,o,hga,_⟩:=hN.rc (fun e=>by have h:=yS List.length e;rw[zbB,List.length_nil]at h;omega);have HRc:=zB hN.rc;rw[hga]at HRc;clear HR h0 hck HK hbt HL HOp1 HOp0 hok hk6 hp1 hp2 hb;unfold NV zdN at HC HCp;unfold zdN at k1 hW1;unfold zmN VV at HLH;unfold NV zdN;obtain⟨nc,hnc⟩:∃n,N.comps.length=n:=⟨_,rfl⟩;obtain⟨np,hnp⟩:∃n,N.parts.length=n:=⟨_,rfl⟩;obtain⟨nx,hnx⟩:∃n,N.ctxs.length=n:=⟨_,rfl⟩;obtain⟨pt,hpt⟩:∃n,N.part=n:=⟨_,rfl⟩;rw[hnc,hnp,hnx,hpt,hga]at HC HCp k1 hW1 HLH;rw[hnp,hnc]at hpl;rw[hnx]at hxl;rw[hnc]at hl0 hl;rw[hpt]at Hpp;rw[hnc,hnp,hnx,hpt,hga];clear hga;have Hnc:=zB hnc;have Hnp:=zB hnp;have Hnx:=zB hnx;have Hpt:=zB hpt;clear hnc hnp hnx hpt hN;subst hpl;subst hxl;have c1:=k1.cell 0;simp only[lgz]at c1;go_enter Tryz.func19,Tryz.ntmps19;go_wp2_with (first
  | (rw[hW1])
  | (refine yA 40 (.tmp 2) (by rfl) (by rfl) w.heap.size (by rfl) [.slice (some ⟨g,o,none⟩) np L.c1,.slice L.a2 np L.c2,.slice L.a3 16 L.c3,.int .i64 pt] 40 k1 _ Tryz.underlying40 rfl info_N ?_))
 refine HC.out.mono ?_;rintro e w2 ⟨a,cap,rfl,hrd,hfar,hcap,hb2⟩;have k2:=k1.step hb2;have r2:=r1.step hb2;have B2:=zA B1 hb2;have Hrd:=zB hrd;have Hfar:=zB hfar;clear k1 r1 hW1 B1 hrd hfar hb2 c1 HC;go_wp2_with fail;refine(HBw.out _).mono ?_;rintro e w3 ⟨rfl,hb3⟩;have k3:=k2.step hb3;have r3:=r2.step hb3;have B3:=zA B2 hb3;have Hrd:=zB (Hrd.out.step hb3);obtain⟨ga,oa,rfl,hga⟩:∃ga oa,a=some ⟨ga,oa,none⟩∧ga<w3.heap.size:=by
  obtain⟨g',o',e,hcs⟩:=Hrd.out.at (i:=0) (by unfold zaK;rw[zaH,S14.outs_length];omega);exact⟨g',o',e,zL (hcs 0 (by unfold zaK;rw[zaH,S14.outs_length];omega))⟩
 clear k2 r2 B2 hb3 HBw;go_wp2_with (first
  | (refine yA 40 (.tmp 2) (by rfl) (by rfl) w.heap.size (by rfl) [.slice (some ⟨g,o,none⟩) np L.c1,.slice L.a2 np L.c2,.slice L.a3 16 L.c3,.int .i64 pt] 40 k3 _ Tryz.underlying40 rfl info_N ?_))
 refine(HCp.out _ B3).mono ?_;rintro e w4 ⟨a1,c1,a2,c2,a3,c3,rfl,own1,own2,own3,hb4⟩;have B4:=zA B3 hb4;have k4:=k3.step hb4;have r4:=r3.step hb4;have Hrd:=zB (Hrd.out.step hb4);obtain⟨D,hD⟩:∃D,w3.heap.size=D:=⟨_,rfl⟩;have hwD:w.heap.size+1<D:=by rw[←hD];exact r3.lt
 rw[hD]at own1 own2 own3 hga;unfold OwnP at own2;rw[Hnp.out]at own2;obtain⟨NB,hNB⟩:∃NB,w4.heap.size=NB:=⟨_,rfl⟩;have hb4s:=hb4.size;clear k3 r3 hb4 HCp B3;have hDN:D≤NB:=by rw[←hD,←hNB];exact hb4s
 obtain⟨W5,hW5⟩:∃W5,w4.alloc (.cells #[.slice none 0 0,.slice none 0 0,.slice none 0 0,.int .i64 0] 40)=W5:=⟨_,rfl⟩;have hb5:Below w4.heap.size w4 W5:=by rw[←hW5];exact(zF _ _).alloc (zD _) _
 have EN:Blk W5 NB [.slice none 0 0,.slice none 0 0,.slice none 0 0,.int .i64 0] 40:=by rw[←hW5,←hNB];exact Blk.new w4 _ _
 obtain⟨gC,rfl,hC1,hC2,hC3,hC4⟩:=zdQ own1 hl0;obtain⟨g2,rfl,hP1,hP2,hP3,hP4⟩:=zdQ own2 hl0;obtain⟨gX,rfl,hX1,hX2,hX3,hX4⟩:=zdQ own3 (by decide);have hneCP:gC≠g2:=zhT own1 own2 (by decide);have hneXP:gX≠g2:=zhT own3 own2 (by decide);rw[hNB]at hC2 hP2 hX2;go_wp2_with (first
  | (rw[hW5,hNB])
  | (rw[hW5])
  | (refine zT 40 (.tmp 8) (.tmp 27) (by rfl) (by rfl) NB (by rfl) [.slice (some ⟨gC,0,none⟩) np c1,.slice (some ⟨g2,0,none⟩) np c2,.slice (some ⟨gX,0,none⟩) 16 c3,.int .i64 pt] (by rfl) _ 40 EN info_N rfl (by simp[Value.oneCell']) ?_;intro wL EL gL sL;have hXN:KepX (fun k=>k=NB) w4 wL:=(KepX.below hb5).trans (KepX.row gL (fun b e=>.inl (zK e).symm));have kL:=k4.kepX hXN (show¬_=NB by omega);have c0:=kL.cell 0;simp only[lgz]at c0))
 have BL:Below w.heap.size w wL:=hXN.toBelow B4 (fun k e=>by have e:k=NB:=e;omega);have rL:=r4.kepX hXN (show¬_=NB by omega);have HrC:=zB ((Rd.of_owns own1).kepX hXN (fun g o e=>by cases e;show¬_=NB;omega));have HrX:=zB ((Rd.of_owns own3).kepX hXN (fun g o e=>by cases e;show¬_=NB;omega));have own2L:=zdG own2 hXN (fun g e=>by have e:some g2=some g:=e;cases e;show¬_=NB;omega);have HrdL:=zB (Hrd.out.kepX hXN (fun g o e=>by cases e;show¬_=NB;omega));clear own1 own2 own3 k4 r4 B4 gL sL EN hb5 hXN hW5 Hrd
 have hXl:∀k,(k=w.heap.size+1∨k=NB∨k=g2)→w.heap.size≤k∧k<wL.heap.size:=fun k h=>by
  have h1:=EL.lt;have h2:=rL.lt;rcases h with rfl|rfl|rfl
  ·omega
  ·omega
  ·omega
 have hzL:=BL.size;obtain⟨Z,hZ⟩:∃Z,wL.heap.size=Z:=⟨_,rfl⟩;have HXl:=zB (hZ▸hXl);have hrob0:∀(j:Nat) (p:S14.P) (y:Lay),j<0→(S14.parts1 G N.parts 0)[j]? = some p→L.ys[j]? = some y→PRobX (fun k=>k<w.heap.size∨k=w.heap.size+1∨k=NB∨k=g2) p y wL:=fun j p y h=>absurd h (Nat.not_lt_zero _);have hly0:L.ys.length=np:=by rw[HN.out.ly,Hnp.out]
 clear hXl
 go_loopw [31] (fun i wr=>∃(k:Nat) (ys:List Lay),k≤np∧i = .int .i64 (k:Int)∧ys.length=np∧Hid (wr.ownsRow D 78 16 (.slice (some ⟨g2,0,none⟩) np c2) np (PCs (S14.parts1 G N.parts k) ys))∧
  KepX (fun k=>k=g2) wL wr∧
  Hid (∀(j:Nat) (p:S14.P) (y:Lay),j<k→(S14.parts1 G N.parts k)[j]? = some p→ys[j]? = some y→PRobX (fun k=>k<w.heap.size∨k=w.heap.size+1∨k=NB∨k=g2) p y wr)) (fun i _=>np-(intOf i).toNat)
 case atStart=>exact⟨0,L.ys,by omega,rfl,hly0,zB own2L,KepX.refl _ _,zB hrob0⟩
 case round=>
  clear own2L hrob0 hly0;obtain⟨k,ys,hk,rfl,hys,hown,hKX,hrob⟩:=hrel;have hzr:Z≤wr.heap.size:=by rw[←hZ];exact hKX.size
  have hBr:Below w.heap.size w wr:=hKX.toBelow BL (fun k e=>by have e:k=g2:=e;omega);have kr:=kL.kepX hKX (show¬_=g2 by omega);by_cases hlt:k<np
  ·have hkz:(k:Int)<(np:Int):=by omega
   have hkcz:(k:Int)≤(cap:Int):=by omega
   obtain⟨x,hx⟩:∃x,N.comps[k]? = some x:=⟨_,zE (by have:=Hnc.out;omega)⟩;obtain⟨g1,o1,e1,hcs1⟩:=(HRc.out.step hBr) (fun e=>by have h:=yS List.length e;have:=Hnc.out;rw[zbB,List.length_nil]at h;omega);cases e1;obtain⟨x0,x1,x2,x3,x4,x5⟩:=zsN hcs1 hx;have hkd:=Hk6.out x (zdB hx);obtain⟨W6,hW6⟩:∃W6,wr.alloc (.cells #[.int .i64 x.kind,.int .i64 x.bits,.int .i64 x.limit,.int .i64 x.rate,.int .i64 x.first,.int .i64 x.second] 37)=W6:=⟨_,rfl⟩;obtain⟨Q,hQ⟩:∃Q,wr.heap.size=Q:=⟨_,rfl⟩;have kQ:Blk W6 Q [.int .i64 x.kind,.int .i64 x.bits,.int .i64 x.limit,.int .i64 x.rate,.int .i64 x.first,.int .i64 x.second] 37:=by rw[←hW6,←hQ];exact Blk.new wr _ _
   have hb6:Below wr.heap.size wr W6:=by rw[←hW6];exact(zF _ _).alloc (zD _) _
   have k6:=kr.step hb6;have B6:=zA hBr hb6;have KX6:=hKX.trans (KepX.below hb6);have hz6:Z≤W6.heap.size:=yC hzr hb6.size;have Hown6:=zB (yX (B:=0) hown.out hb6);have Hrob6:=zB (show∀(j:Nat) (p:S14.P) (y:Lay),j<k→(S14.parts1 G N.parts k)[j]? = some p→ys[j]? = some y→PRobX (fun k=>k<w.heap.size∨k=w.heap.size+1∨k=NB∨k=g2) p y W6 from fun j p y hjk h1 h2=>(hrob.out j p y hjk h1 h2).kep (KepX.below hb6))
   have HX0:=zB (fun(W:World) (hW:Below W6.heap.size W6 W)=>HLH.out k x hx (some ⟨ga,oa,none⟩) W (zA B6 hW) (by
    have h1:=((HrdL.out.kepX hKX (fun g o e=>by cases e;show¬_=g2;omega)).step (zA hb6 hW)).take14 k;have h2:(zaK (S14.outs O np)).take k=zaK (S14.outs O k):=by
     unfold zaK;rw[←List.map_take,S14.outs_take O k np (by omega)]
    rwa[h2]at h1))
   have hCS:Cells W6 [(⟨Q,0,none⟩,.int .i64 x.kind),(⟨Q,1,none⟩,.int .i64 x.bits),(⟨Q,2,none⟩,.int .i64 x.limit),(⟨Q,3,none⟩,.int .i64 x.rate),(⟨Q,4,none⟩,.int .i64 x.first),(⟨Q,5,none⟩,.int .i64 x.second),(⟨w.heap.size,0,none⟩,.slice (some ⟨g,o,none⟩) np L.c1),(⟨w.heap.size,1,none⟩,.slice L.a2 np L.c2),(⟨w.heap.size,2,none⟩,.slice L.a3 16 L.c3),(⟨w.heap.size,3,none⟩,.int .i64 pt)]:=
    ⟨kQ.cell 0,kQ.cell 1,kQ.cell 2,kQ.cell 3,kQ.cell 4,kQ.cell 5,k6.cell 0,k6.cell 1,k6.cell 2,k6.cell 3,yF⟩
   clear hb6 hown hrob hKX hcs1 hx kr hBr;go_wp2_with (first|(rw[hW6,hQ])|(rw[hW6])|fail);clear x0 x1 x2 x3 x4 x5;unfold LearnF CV zZ at HX0;obtain⟨TT,FF,hof,hX3,hen,hme,hah⟩:∃(TT:TypeId) (FF:FuncId),OfV x = .iface TT (.agg #[.int .i64 x.kind,.int .i64 x.bits,.int .i64 x.limit,.int .i64 x.rate,.int .i64 x.first,.int .i64 x.second])∧(∀W,Below W6.heap.size W6 W→Calls Tryz.prog FF #[.agg #[.int .i64 x.kind,.int .i64 x.bits,.int .i64 x.limit,.int .i64 x.rate,.int .i64 x.first,.int .i64 x.second],.agg #[.slice (some ⟨g,o,none⟩) np L.c1,.slice L.a2 np L.c2,.slice L.a3 16 L.c3,.int .i64 pt,.int .i64 (k:Int),.slice (some ⟨ga,oa,none⟩) k k],.int .i64 bit] W fun e w'=>∃y,e = .returned (.tuple #[PV (G k) y,.int .i64 0])∧PRob 0 W.heap.size (G k) y w'∧Below W.heap.size W w')∧(∀args w,(callFunc FF args).run Tryz.prog w = .ok (.enter FF args) w)∧(∀w,(method 371 TT (.agg #[.int .i64 x.kind,.int .i64 x.bits,.int .i64 x.limit,.int .i64 x.rate,.int .i64 x.first,.int .i64 x.second]) "compactor/network.learn").run Tryz.prog w = .ok (FF,(.agg #[.int .i64 x.kind,.int .i64 x.bits,.int .i64 x.limit,.int .i64 x.rate,.int .i64 x.first,.int .i64 x.second])) w)∧(∀w,(nilAhead 371 TT (.agg #[.int .i64 x.kind,.int .i64 x.bits,.int .i64 x.limit,.int .i64 x.rate,.int .i64 x.first,.int .i64 x.second]) "compactor/network.learn").run Tryz.prog w = .ok (some false) w):=by
    by_cases k0:x.kind=0
    ·refine⟨111,103,?_,?_,enters_of Tryz.func103 (by kernel_rfl) rfl,zkH _,zjO _⟩
     ·unfold OfV CV zZ;simp only[k0];rfl
     ·intro W hW;have:=HX0.out W hW;simp only[k0]at this⊢;exact this
    by_cases k1:x.kind=1
    ·refine⟨112,115,?_,?_,enters_of Tryz.func115 (by kernel_rfl) rfl,znT _,zmL _⟩
     ·unfold OfV CV zZ;simp only[k1];rfl
     ·intro W hW;have:=HX0.out W hW;simp only[k1]at this⊢;exact this
    by_cases k2:x.kind=2
    ·refine⟨113,144,?_,?_,enters_of Tryz.func144 (by kernel_rfl) rfl,zlV _,zkZ _⟩
     ·unfold OfV CV zZ;simp only[k2];rfl
     ·intro W hW;have:=HX0.out W hW;simp only[k2]at this⊢;exact this
    by_cases k3:x.kind=3
    ·refine⟨114,160,?_,?_,enters_of Tryz.func160 (by kernel_rfl) rfl,zlU _,zkY _⟩
     ·unfold OfV CV zZ;simp only[k3];rfl
     ·intro W hW;have:=HX0.out W hW;simp only[k3]at this⊢;exact this
    by_cases k4:x.kind=4
    ·refine⟨115,189,?_,?_,enters_of Tryz.func189 (by kernel_rfl) rfl,zlW _,zlA _⟩
     ·unfold OfV CV zZ;simp only[k4];rfl
     ·intro W hW;have:=HX0.out W hW;simp only[k4]at this⊢;exact this
    by_cases k5:x.kind=5
    ·refine⟨116,197,?_,?_,enters_of Tryz.func197 (by kernel_rfl) rfl,zpP _,zoC _⟩
     ·unfold OfV CV zZ;simp only[k5];rfl
     ·intro W hW;have:=HX0.out W hW;simp only[k5]at this⊢;exact this
    by_cases k6:x.kind=6
    ·refine⟨117,217,?_,?_,enters_of Tryz.func217 (by kernel_rfl) rfl,zlT _,zkX _⟩
     ·unfold OfV CV zZ;simp only[k6];rfl
     ·intro W hW;have:=HX0.out W hW;simp only[k6]at this⊢;exact this
    omega
   have HX:=zB hX3;clear hX3 HX0;go_wp2_with fail;refine zbU 19 1 (.read 0 (.read 2 (.read 3 (.read 4 (.read 5 (.read 6 (.read 7 (.read 8 (.read 9 (.two (.one 17 (.one 1 (.read 10 (.read 11 (.read 12 (.one 13 (.read 14 (.read 15 (.read 16 (.one 18 .done)))))))))) (.one 1 (.read 10 (.read 11 (.read 12 (.two (.one 17 (.one 13 (.read 14 (.read 15 (.read 16 (.one 18 .done)))))) (.one 13 (.read 14 (.read 15 (.read 16 (.one 17 (.one 18 .done))))))))))))))))))))) _ _ o0P (fun K=>Below W6.heap.size W6 K∧Cells K [(⟨Q,0,none⟩,.int .i64 x.kind),(⟨Q,1,none⟩,.int .i64 x.bits),(⟨Q,2,none⟩,.int .i64 x.limit),(⟨Q,3,none⟩,.int .i64 x.rate),(⟨Q,4,none⟩,.int .i64 x.first),(⟨Q,5,none⟩,.int .i64 x.second),(⟨w.heap.size,0,none⟩,.slice (some ⟨g,o,none⟩) np L.c1),(⟨w.heap.size,1,none⟩,.slice L.a2 np L.c2),(⟨w.heap.size,2,none⟩,.slice L.a3 16 L.c3),(⟨w.heap.size,3,none⟩,.int .i64 pt)]) (by kernel_rfl) (yB 19 _).symm (by kernel_rfl) (by kernel_rfl) (by kernel_rfl) (by kernel_rfl) (⟨(zF _ _).drew,hCS⟩) (fun Y Q4 F4 hY hF=> ?_);simp only[Plan.map,ltc,ltz,ldc,ldz,List.getD_cons_zero,List.getD_cons_succ]
   repeat
    apply zU (by rw[hY];rfl)
    ·intro w2 hS2;(try simp only[Keeps,Cells]at hS2);go_simp;with_reducible rfl
    simp only[zuI]
   have fin:∀(I:Value) (y:Lay) (VS:List Value) (bP:Nat) (w9 wS:World),Hid (yL (G k) y=VS)→Below W6.heap.size W6 w9→PRobX (fun b=>b<w.heap.size∨b=w.heap.size+1∨b=NB∨b=g2∨b=bP) (G k) y w9→W6.heap.size≤bP→Blk wS bP VS 78→w9.grownBy wS (some bP)→
    F4 {tmps:=#[Value.agg #[Value.slice (some {block:=g,off:=o}) np L.c1,Value.slice L.a2 np L.c2,Value.slice L.a3 16 L.c3,Value.int IntKind.i64 pt],Value.int IntKind.i64 bit,Value.pointer (some {block:=w.heap.size,off:=0}),undef,Value.pointer (some {block:=w.heap.size+1,off:=0}),u5,Value.slice (some {block:=ga,off:=oa}) np cap,Value.int IntKind.i64 0,Value.pointer (some {block:=NB,off:=0}),Value.int IntKind.i64 (k:Int),Value.pointer (some {block:=Q,off:=0}),Value.pointer (some {block:=bP,off:=0}),u12,Value.tuple #[Value.slice (some {block:=ga,off:=oa}) np cap,Value.int IntKind.i64 0],Value.agg #[Value.slice (some {block:=g,off:=o}) np L.c1,Value.slice L.a2 np L.c2,Value.slice L.a3 16 L.c3,Value.int IntKind.i64 pt],Value.tuple #[Value.slice (some {block:=ga,off:=oa}) np cap,Value.int IntKind.i64 0],Value.slice (some {block:=ga,off:=oa}) np cap,Value.int IntKind.i64 0,Value.int IntKind.i64 0,Value.bool false,undef,undef,Value.int IntKind.i64 bit,Value.bool true,Value.bool false,undef,Value.agg #[Value.slice (some {block:=g,off:=o}) np L.c1,Value.slice L.a2 np L.c2,Value.slice L.a3 16 L.c3,Value.int IntKind.i64 pt],Value.agg #[Value.slice (some {block:=gC,off:=0}) np c1,Value.slice (some {block:=g2,off:=0}) np c2,Value.slice (some {block:=gX,off:=0}) 16 c3,Value.int IntKind.i64 pt],Value.pointer (some {block:=w.heap.size,off:=0}),Value.slice (some {block:=g,off:=o}) np L.c1,Value.int IntKind.i64 (np:Int),Value.int IntKind.i64 (k:Int),Value.bool true,Value.int IntKind.i64 (k:Int),Value.pointer (some {block:=g,off:=o+k*6}),Value.agg #[Value.int IntKind.i64 x.kind,Value.int IntKind.i64 x.bits,Value.int IntKind.i64 x.limit,Value.int IntKind.i64 x.rate,Value.int IntKind.i64 x.first,Value.int IntKind.i64 x.second],Value.tuple #[.agg VS.toArray,Value.int IntKind.i64 0],Value.agg #[Value.int IntKind.i64 x.kind,Value.int IntKind.i64 x.bits,Value.int IntKind.i64 x.limit,Value.int IntKind.i64 x.rate,Value.int IntKind.i64 x.first,Value.int IntKind.i64 x.second],I,Value.agg #[Value.slice (some {block:=g,off:=o}) np L.c1,Value.slice L.a2 np L.c2,Value.slice L.a3 16 L.c3,Value.int IntKind.i64 pt],Value.int IntKind.i64 (k:Int),Value.slice (some {block:=ga,off:=oa}) np cap,Value.int IntKind.i64 (k:Int),Value.int IntKind.i64 (k:Int),Value.slice (some {block:=ga,off:=oa}) k k,Value.agg #[Value.slice (some {block:=g,off:=o}) np L.c1,Value.slice L.a2 np L.c2,Value.slice L.a3 16 L.c3,Value.int IntKind.i64 pt,Value.int IntKind.i64 (k:Int),Value.slice (some {block:=ga,off:=oa}) k k],Value.int IntKind.i64 bit,Value.func (Fn.method "compactor/network.learn") #[I] #[],Value.func (Fn.method "compactor/network.learn") #[I] #[],I,Value.tuple #[.agg VS.toArray,Value.int IntKind.i64 0],.agg VS.toArray,Value.int IntKind.i64 0,u53,u54,u55,u56,u57,u58,u59,u60,u61,u62,undef,undef,undef,undef,undef,undef,undef,undef,undef,undef,undef,undef,undef,undef,undef,undef,undef,undef,undef,undef,undef,undef],defers:=[]} wS:=by
    intro I y VS bP w9 wS HVS hb9 hrob9 zP1 ES gS;refine hF.out _ _ (fun K hK=> ?_);have hV1:∀v∈VS,v.oneCell'=true:=HVS.out▸zaM (G k) y;have hVl:VS.length=16:=HVS.out▸rfl;have HV1:=zB hV1;have HVl:=zB hVl;clear hF hY hV1 hVl HX hen hme hah;go_wp2_with fail;refine OnlyK.mk (hK.out _ _ ?_);have hneb:g2≠bP:=by have:=(HXl.out g2 (.inr (.inr rfl))).2;omega
    have hneN:NB≠bP:=by have:=(HXl.out NB (.inr (.inl rfl))).2;omega
    have KX9:KepX (fun k=>k=g2) wL wS:=(KX6.trans (KepX.below hb9)).rowB gS (fun b e=>.inr (by have e:bP=b:=zK e;rw[hZ];omega));have nS:Blk wS NB [.slice (some ⟨gC,0,none⟩) np c1,.slice (some ⟨g2,0,none⟩) np c2,.slice (some ⟨gX,0,none⟩) 16 c3,.int .i64 pt] 40:=EL.kepX KX9 (show¬_=g2 by omega);have cN:=nS.cell 1;simp only[zuK]at cN;have HownS:=zB (zdG (X:=fun k=>k=bP) (yX (B:=0) Hown6.out hb9) (KepX.row gS (fun b e=>.inl (zK e).symm)) (fun g e=>by have e:some g2=some g:=e;cases e;exact hneb));have hth:=zfS (o:=k*16) (k:=16) HownS.out (by omega);have hth2:wS.there g2 (k*16) VS.toArray.size:=by rw[List.size_toArray,HVl.out];exact hth
    have HrobS:=zB (show∀(j:Nat) (p:S14.P) (y':Lay),j<k+1→(S14.parts1 G N.parts (k+1))[j]? = some p→(ys.set k y)[j]? = some y'→PRobX (fun k=>k<w.heap.size∨k=w.heap.size+1∨k=NB∨k=g2) p y' wS from fun j p y' hjk h1 h2=>by
     rw[S14.parts1]at h1;rw[List.getElem?_set]at h1 h2;have hpn:(S14.parts1 G N.parts k).length=np:=by rw[S14.parts1_length,Hnp.out]
     by_cases hj:k=j
     ·subst hj;rw[zO rfl,zO (by omega)]at h1 h2;cases h1;cases h2
      exact(hrob9.kep (KepX.row gS (fun b e=>.inl (.inr (.inr (.inr (.inr (zK e).symm))))))).change (fun b _ hb=>by
       rcases hb with h|h|h|h
       ·exact .inl h
       ·exact .inr (.inl h)
       ·exact .inr (.inr (.inl h))
       ·exact .inr (.inr (.inr (.inl h))))
     ·rw[zG hj]at h1 h2;exact(Hrob6.out j p y' (by omega) h1 h2).kep ((KepX.below hb9).rowB gS (fun b e=>.inr (by have e:bP=b:=zK e;omega))))
    clear hth gS hb9 hrob9 Hown6 Hrob6 hCS k6 kQ;go_wp2_with (first
     | (refine yA 78 (.tmp 11) (by rfl) (by rfl) bP (by rfl) VS 78 ES _ Tryz.underlying78 rfl (info_P.trans (yS some HVl.out.symm)) ?_)
     | (refine wpList_store_mid (by rfl) 78 (.tmp 61) (.tmp 60) (by rfl) g2 (k*16) VS.toArray (by rfl) (by rfl) hth2 (info_P.trans (yS some (HVl.out.symm.trans List.size_toArray.symm))) (all_oneCell_toArray HV1.out) ?_))
    have hown':=zkC (o:=k*16) (vs:=VS) HownS.out (by rw[HVl.out];omega);have hgs:=yZ g2 VS (k*16) wS;have hE:VS.toArray.toList=VS:=List.toList_toArray;rw[←HVS.out,←PCs_put _ _ _ _ _ (by rw[hys,S14.parts1_length,Hnp.out]) (by rw[S14.parts1_length,Hnp.out];exact hlt),HVS.out]at hown';have Hown':Hid ((wS.setCells g2 (k*16) VS).ownsRow D 78 16 (.slice (some ⟨g2,0,none⟩) np c2) np (PCs (S14.parts1 G N.parts (k+1)) (ys.set k y))):=zB hown';have KX':=KX9.trans (KepX.row hgs (fun b e=>.inl (zK e).symm));have Hrob':=zB (show∀(j:Nat) (p:S14.P) (y':Lay),j<k+1→(S14.parts1 G N.parts (k+1))[j]? = some p→(ys.set k y)[j]? = some y'→PRobX (fun k=>k<w.heap.size∨k=w.heap.size+1∨k=NB∨k=g2) p y' (wS.setCells g2 (k*16) VS)from fun j p y' hjk h1 h2=>(HrobS.out j p y' hjk h1 h2).kep (KepX.row hgs (fun b e=>.inl (.inr (.inr (.inr (zK e).symm))))));have hyl:(ys.set k y).length=np:=by rw[yT,hys]
    clear hown' hgs HownS HrobS KX9 hth2 cN nS ES;go_roundw
    case rel=>exact⟨k+1,ys.set k y,by omega,by simp,hyl,hE▸Hown',hE▸KX',hE▸Hrob'⟩
    case measure=>simp[intOf];omega
   have hbv0:Below W6.heap.size W6 W6.drew:=(zF _ _).drew;obtain⟨v0,hv0⟩:∃v,W6.drew=v:=⟨_,rfl⟩;rw[hv0]at hbv0⊢;refine zaT ?_ ?_
   ·skip
    have hbv10:Below v0.heap.size v0 (v0.alloc (.cells #[.slice none 0 0,.int .i64 0,.slice none 0 0,.int .i64 0,.int .i64 0,.int .i64 0,.slice none 0 0,.slice none 0 0,.int .i64 0,.int .i64 0,.int .i64 0,.int .i64 0,.slice none 0 0,.int .i64 0,.slice none 0 0,.slice none 0 0] 78)):=(zF _ _).alloc (zD _) _;have hbv1:=zA hbv0 hbv10;refine yR (by rw[hY];rfl) (by go_simp;first|with_reducible exact⟨rfl,rfl⟩|with_reducible rfl) ((show Below W6.heap.size W6 (v0.alloc (.cells #[.slice none 0 0,.int .i64 0,.slice none 0 0,.int .i64 0,.int .i64 0,.int .i64 0,.slice none 0 0,.slice none 0 0,.int .i64 0,.int .i64 0,.int .i64 0,.int .i64 0,.slice none 0 0,.int .i64 0,.slice none 0 0,.slice none 0 0] 78))∧Cells (v0.alloc (.cells #[.slice none 0 0,.int .i64 0,.slice none 0 0,.int .i64 0,.int .i64 0,.int .i64 0,.slice none 0 0,.slice none 0 0,.int .i64 0,.int .i64 0,.int .i64 0,.int .i64 0,.slice none 0 0,.int .i64 0,.slice none 0 0,.slice none 0 0] 78)) [(⟨Q,0,none⟩,.int .i64 x.kind),(⟨Q,1,none⟩,.int .i64 x.bits),(⟨Q,2,none⟩,.int .i64 x.limit),(⟨Q,3,none⟩,.int .i64 x.rate),(⟨Q,4,none⟩,.int .i64 x.first),(⟨Q,5,none⟩,.int .i64 x.second),(⟨w.heap.size,0,none⟩,.slice (some ⟨g,o,none⟩) np L.c1),(⟨w.heap.size,1,none⟩,.slice L.a2 np L.c2),(⟨w.heap.size,2,none⟩,.slice L.a3 16 L.c3),(⟨w.heap.size,3,none⟩,.int .i64 pt)]from⟨hbv1,Cells.step hbv1 hCS⟩)) ?_;simp only[zuI];have kP:=Blk.new v0 [.slice none 0 0,.int .i64 0,.slice none 0 0,.int .i64 0,.int .i64 0,.int .i64 0,.slice none 0 0,.slice none 0 0,.int .i64 0,.int .i64 0,.int .i64 0,.int .i64 0,.slice none 0 0,.int .i64 0,.slice none 0 0,.slice none 0 0] 78;have zP1:W6.heap.size≤v0.heap.size:=hbv0.size;obtain⟨bP,hbP⟩:∃bP,v0.heap.size=bP:=⟨_,rfl⟩;obtain⟨v1,hv1⟩:∃v,v0.alloc (.cells #[.slice none 0 0,.int .i64 0,.slice none 0 0,.int .i64 0,.int .i64 0,.int .i64 0,.slice none 0 0,.slice none 0 0,.int .i64 0,.int .i64 0,.int .i64 0,.int .i64 0,.slice none 0 0,.int .i64 0,.slice none 0 0,.slice none 0 0] 78)=v:=⟨_,rfl⟩;have hwP:bP<v1.heap.size:=by rw[←hv1,←hbP];simp
    rw[hv1]at hbv1 hbv10 kP⊢;rw[hbP]at kP zP1 hbv10⊢;apply yH (by rw[hY];rfl)
    ·go_simp;with_reducible exact⟨rfl,rfl⟩
    refine(HO.out x _).mono ?_;rintro e v2 ⟨rfl,hbv20⟩;have hbv2:=zA hbv1 hbv20;refine⟨_,rfl,⟨hbv2,Cells.step hbv2 hCS⟩,?_⟩;simp only[zuI];rw[hof];have kP:=kP.step hbv20;have hwP:=zaF hwP hbv20.size
    repeat
     apply zU (by rw[hY];rfl)
     ·intro w2 hS2;(try simp only[Keeps,Cells]at hS2);go_simp;with_reducible rfl
     simp only[zuI]
    apply yH (by rw[hY];rfl)
    ·go_simp;first|with_reducible exact⟨rfl,rfl⟩|with_reducible rfl
    refine(HX.out v2 hbv2).mono ?_;rintro e v3 ⟨y,rfl,hPR,hbv30⟩;have hbv3:=zA hbv2 hbv30;have zW:W6.heap.size≤v2.heap.size:=hbv2.size;refine⟨_,rfl,⟨hbv3,Cells.step hbv3 hCS⟩,?_⟩;simp only[zuI];have kP:=kP.step hbv30
    repeat
     apply zU (by rw[hY];rfl)
     ·intro w2 hS2;(try simp only[Keeps,Cells]at hS2);go_simp;with_reducible rfl
     simp only[zuI]
    refine zaA 78 (.tmp 11) (.tmp 51) (by rfl) (by rw[hY];rfl) bP (by rfl) (yL (G k) y) (by rfl) _ 78 kP info_P rfl (zaM _ _) ?_;intro wS ES gS sS;refine⟨(fun hb=>⟨hb,Cells.step hb hCS⟩) (hbv3.trans (yG gS zP1 hbv3.size)),?_⟩;simp only[zuI];refine yY (fin _ y _ bP _ wS (zB rfl) hbv3 (hPR.toX (fun b _ hb=> ?_)) zP1 ES gS);have hb:b<w.heap.size∨b=w.heap.size+1∨b=NB∨b=g2∨b=bP:=hb;rcases hb with h|h|h|h|h
    ·have:=HXl.out (w.heap.size+1) (.inl rfl);omega
    ·have:=HXl.out b (.inl h);omega
    ·have:=HXl.out b (.inr (.inl h));omega
    ·have:=HXl.out b (.inr (.inr h));omega
    ·omega
   ·skip
    apply yH (by rw[hY];rfl)
    ·go_simp;with_reducible exact⟨rfl,rfl⟩
    refine(HO.out x _).mono ?_;rintro e v1 ⟨rfl,hbv10⟩;have hbv1:=zA hbv0 hbv10;refine⟨_,rfl,⟨hbv1,Cells.step hbv1 hCS⟩,?_⟩;simp only[zuI];rw[hof]
    repeat
     apply zU (by rw[hY];rfl)
     ·intro w2 hS2;(try simp only[Keeps,Cells]at hS2);go_simp;with_reducible rfl
     simp only[zuI]
    refine zaT ?_ ?_
    ·skip
     have hbv20:Below v1.heap.size v1 (v1.alloc (.cells #[.slice none 0 0,.int .i64 0,.slice none 0 0,.int .i64 0,.int .i64 0,.int .i64 0,.slice none 0 0,.slice none 0 0,.int .i64 0,.int .i64 0,.int .i64 0,.int .i64 0,.slice none 0 0,.int .i64 0,.slice none 0 0,.slice none 0 0] 78)):=(zF _ _).alloc (zD _) _;have hbv2:=zA hbv1 hbv20;refine yR (by rw[hY];rfl) (by go_simp;first|with_reducible exact⟨rfl,rfl⟩|with_reducible rfl) ((show Below W6.heap.size W6 (v1.alloc (.cells #[.slice none 0 0,.int .i64 0,.slice none 0 0,.int .i64 0,.int .i64 0,.int .i64 0,.slice none 0 0,.slice none 0 0,.int .i64 0,.int .i64 0,.int .i64 0,.int .i64 0,.slice none 0 0,.int .i64 0,.slice none 0 0,.slice none 0 0] 78))∧Cells (v1.alloc (.cells #[.slice none 0 0,.int .i64 0,.slice none 0 0,.int .i64 0,.int .i64 0,.int .i64 0,.slice none 0 0,.slice none 0 0,.int .i64 0,.int .i64 0,.int .i64 0,.int .i64 0,.slice none 0 0,.int .i64 0,.slice none 0 0,.slice none 0 0] 78)) [(⟨Q,0,none⟩,.int .i64 x.kind),(⟨Q,1,none⟩,.int .i64 x.bits),(⟨Q,2,none⟩,.int .i64 x.limit),(⟨Q,3,none⟩,.int .i64 x.rate),(⟨Q,4,none⟩,.int .i64 x.first),(⟨Q,5,none⟩,.int .i64 x.second),(⟨w.heap.size,0,none⟩,.slice (some ⟨g,o,none⟩) np L.c1),(⟨w.heap.size,1,none⟩,.slice L.a2 np L.c2),(⟨w.heap.size,2,none⟩,.slice L.a3 16 L.c3),(⟨w.heap.size,3,none⟩,.int .i64 pt)]from⟨hbv2,Cells.step hbv2 hCS⟩)) ?_;simp only[zuI];have kP:=Blk.new v1 [.slice none 0 0,.int .i64 0,.slice none 0 0,.int .i64 0,.int .i64 0,.int .i64 0,.slice none 0 0,.slice none 0 0,.int .i64 0,.int .i64 0,.int .i64 0,.int .i64 0,.slice none 0 0,.int .i64 0,.slice none 0 0,.slice none 0 0] 78;have zP1:W6.heap.size≤v1.heap.size:=hbv1.size;obtain⟨bP,hbP⟩:∃bP,v1.heap.size=bP:=⟨_,rfl⟩;obtain⟨v2,hv2⟩:∃v,v1.alloc (.cells #[.slice none 0 0,.int .i64 0,.slice none 0 0,.int .i64 0,.int .i64 0,.int .i64 0,.slice none 0 0,.slice none 0 0,.int .i64 0,.int .i64 0,.int .i64 0,.int .i64 0,.slice none 0 0,.int .i64 0,.slice none 0 0,.slice none 0 0] 78)=v:=⟨_,rfl⟩;have hwP:bP<v2.heap.size:=by rw[←hv2,←hbP];simp
     rw[hv2]at hbv2 hbv20 kP⊢;rw[hbP]at kP zP1 hbv20⊢;apply yH (by rw[hY];rfl)
     ·go_simp;first|with_reducible exact⟨rfl,rfl⟩|with_reducible rfl
     refine(HX.out v2 hbv2).mono ?_;rintro e v3 ⟨y,rfl,hPR,hbv30⟩;have hbv3:=zA hbv2 hbv30;have zW:W6.heap.size≤v2.heap.size:=hbv2.size;refine⟨_,rfl,⟨hbv3,Cells.step hbv3 hCS⟩,?_⟩;simp only[zuI];have kP:=kP.step hbv30
     repeat
      apply zU (by rw[hY];rfl)
      ·intro w2 hS2;(try simp only[Keeps,Cells]at hS2);go_simp;with_reducible rfl
      simp only[zuI]
     refine zaA 78 (.tmp 11) (.tmp 51) (by rfl) (by rw[hY];rfl) bP (by rfl) (yL (G k) y) (by rfl) _ 78 kP info_P rfl (zaM _ _) ?_;intro wS ES gS sS;refine⟨(fun hb=>⟨hb,Cells.step hb hCS⟩) (hbv3.trans (yG gS zP1 hbv3.size)),?_⟩;simp only[zuI];refine yY (fin _ y _ bP _ wS (zB rfl) hbv3 (hPR.toX (fun b _ hb=> ?_)) zP1 ES gS);have hb:b<w.heap.size∨b=w.heap.size+1∨b=NB∨b=g2∨b=bP:=hb;rcases hb with h|h|h|h|h
     ·have:=HXl.out (w.heap.size+1) (.inl rfl);omega
     ·have:=HXl.out b (.inl h);omega
     ·have:=HXl.out b (.inr (.inl h));omega
     ·have:=HXl.out b (.inr (.inr h));omega
     ·omega
    ·skip
     apply yH (by rw[hY];rfl)
     ·go_simp;first|with_reducible exact⟨rfl,rfl⟩|with_reducible rfl
     refine(HX.out v1 hbv1).mono ?_;rintro e v2 ⟨y,rfl,hPR,hbv20⟩;have hbv2:=zA hbv1 hbv20;have zW:W6.heap.size≤v1.heap.size:=hbv1.size;refine⟨_,rfl,⟨hbv2,Cells.step hbv2 hCS⟩,?_⟩;simp only[zuI]
     repeat
      apply zU (by rw[hY];rfl)
      ·intro w2 hS2;(try simp only[Keeps,Cells]at hS2);go_simp;with_reducible rfl
      simp only[zuI]
     have hbv30:Below v2.heap.size v2 (v2.alloc (.cells #[.slice none 0 0,.int .i64 0,.slice none 0 0,.int .i64 0,.int .i64 0,.int .i64 0,.slice none 0 0,.slice none 0 0,.int .i64 0,.int .i64 0,.int .i64 0,.int .i64 0,.slice none 0 0,.int .i64 0,.slice none 0 0,.slice none 0 0] 78)):=(zF _ _).alloc (zD _) _;have hbv3:=zA hbv2 hbv30;refine yR (by rw[hY];rfl) (by go_simp;first|with_reducible exact⟨rfl,rfl⟩|with_reducible rfl) ((show Below W6.heap.size W6 (v2.alloc (.cells #[.slice none 0 0,.int .i64 0,.slice none 0 0,.int .i64 0,.int .i64 0,.int .i64 0,.slice none 0 0,.slice none 0 0,.int .i64 0,.int .i64 0,.int .i64 0,.int .i64 0,.slice none 0 0,.int .i64 0,.slice none 0 0,.slice none 0 0] 78))∧Cells (v2.alloc (.cells #[.slice none 0 0,.int .i64 0,.slice none 0 0,.int .i64 0,.int .i64 0,.int .i64 0,.slice none 0 0,.slice none 0 0,.int .i64 0,.int .i64 0,.int .i64 0,.int .i64 0,.slice none 0 0,.int .i64 0,.slice none 0 0,.slice none 0 0] 78)) [(⟨Q,0,none⟩,.int .i64 x.kind),(⟨Q,1,none⟩,.int .i64 x.bits),(⟨Q,2,none⟩,.int .i64 x.limit),(⟨Q,3,none⟩,.int .i64 x.rate),(⟨Q,4,none⟩,.int .i64 x.first),(⟨Q,5,none⟩,.int .i64 x.second),(⟨w.heap.size,0,none⟩,.slice (some ⟨g,o,none⟩) np L.c1),(⟨w.heap.size,1,none⟩,.slice L.a2 np L.c2),(⟨w.heap.size,2,none⟩,.slice L.a3 16 L.c3),(⟨w.heap.size,3,none⟩,.int .i64 pt)]from⟨hbv3,Cells.step hbv3 hCS⟩)) ?_;simp only[zuI];have kP:=Blk.new v2 [.slice none 0 0,.int .i64 0,.slice none 0 0,.int .i64 0,.int .i64 0,.int .i64 0,.slice none 0 0,.slice none 0 0,.int .i64 0,.int .i64 0,.int .i64 0,.int .i64 0,.slice none 0 0,.int .i64 0,.slice none 0 0,.slice none 0 0] 78;have zP1:W6.heap.size≤v2.heap.size:=hbv2.size;obtain⟨bP,hbP⟩:∃bP,v2.heap.size=bP:=⟨_,rfl⟩;obtain⟨v3,hv3⟩:∃v,v2.alloc (.cells #[.slice none 0 0,.int .i64 0,.slice none 0 0,.int .i64 0,.int .i64 0,.int .i64 0,.slice none 0 0,.slice none 0 0,.int .i64 0,.int .i64 0,.int .i64 0,.int .i64 0,.slice none 0 0,.int .i64 0,.slice none 0 0,.slice none 0 0] 78)=v:=⟨_,rfl⟩;have hwP:bP<v3.heap.size:=by rw[←hv3,←hbP];simp
     rw[hv3]at hbv3 hbv30 kP⊢;rw[hbP]at kP zP1 hbv30⊢;refine zaA 78 (.tmp 11) (.tmp 51) (by rfl) (by rw[hY];rfl) bP (by rfl) (yL (G k) y) (by rfl) _ 78 kP info_P rfl (zaM _ _) ?_;intro wS ES gS sS;refine⟨(fun hb=>⟨hb,Cells.step hb hCS⟩) (hbv3.trans (yG gS zP1 hbv3.size)),?_⟩;simp only[zuI];refine yY (fin _ y _ bP _ wS (zB rfl) hbv3 ((hPR.toX (fun b hb0 hb=> ?_)).kep (KepX.below (hbP.symm▸hbv30))) zP1 ES gS);have hb:b<w.heap.size∨b=w.heap.size+1∨b=NB∨b=g2∨b=bP:=hb;rcases hb with h|h|h|h|h
     ·have:=HXl.out (w.heap.size+1) (.inl rfl);omega
     ·have:=HXl.out b (.inl h);omega
     ·have:=HXl.out b (.inr (.inl h));omega
     ·have:=HXl.out b (.inr (.inr h));omega
     ·omega
  ·obtain rfl:k=np:=by omega
   have nr:Blk wr NB [.slice (some ⟨gC,0,none⟩) k c1,.slice (some ⟨g2,0,none⟩) k c2,.slice (some ⟨gX,0,none⟩) 16 c3,.int .i64 pt] 40:=EL.kepX hKX (show¬_=g2 by omega);have rr:=rL.kepX hKX (show¬_=g2 by omega);have hlm:(S14.parts1 G N.parts k).length=k:=by rw[S14.parts1_length,Hnp.out]
   have hzr2:∀b,(b=w.heap.size+1∨b=NB)→b<wr.heap.size:=fun b hb=>by
    have h1:=HXl.out b (by rcases hb with h|h;exact .inl h;exact .inr (.inl h));omega
   have hNI:∀(V:Int) W2,KepX (fun b=>b<w.heap.size∨b=w.heap.size+1∨b=NB) wr W2→NIs ⟨N.comps,S14.parts1 G N.parts k,N.ctxs,V⟩ ⟨some ⟨gC,0,none⟩,c1,some ⟨g2,0,none⟩,c2,some ⟨gX,0,none⟩,c3,ys⟩ W2:=fun V W2 h2=>
    {rc:=(HrC.out.kepX hKX (fun g o e=>by cases e;exact hneCP)).kepX h2 (fun g o e=>by cases e;show¬(_<_∨_=_∨_=_);omega)
     rp:=(Rd.of_owns hown.out).kepX h2 (fun g o e=>by cases e;show¬(_<_∨_=_∨_=_);omega)
     rx:=(HrX.out.kepX hKX (fun g o e=>by cases e;exact hneXP)).kepX h2 (fun g o e=>by cases e;show¬(_<_∨_=_∨_=_);omega)
     ly:=by rw[hys];exact hlm.symm
     ps:=fun j p y h1 h3=>(((hrob.out j p y (by have h4:j<ys.length:=(List.getElem?_eq_some_iff.1 h3).1;omega) h1 h3).change (fun b _ hb=>by
      rcases hb with h|h|h
      ·exact .inl h
      ·exact .inr (.inl h)
      ·exact .inr (.inr (.inl h)))).kep h2).is
     xs:=HN.out.xs
     l1:=⟨by show N.comps.length≤_;rw[Hnc.out];exact hC3,hC4⟩
     l2:=⟨by show(S14.parts1 G N.parts k).length≤_;rw[hlm];exact hP3,hP4⟩
     l3:=⟨by show N.ctxs.length≤_;rw[Hnx.out];exact hX3,hX4⟩}
   have HNI:=zB hNI
   have HT:=zB (show∀(V:Int) (wB:World),S14.next pt bit=V→KepX (fun b=>b=w.heap.size+1∨b=NB) wr wB→S14.opens V→
    Calls Tryz.prog 27 #[.agg #[.slice (some ⟨gC,0,none⟩) k c1,.slice (some ⟨g2,0,none⟩) k c2,.slice (some ⟨gX,0,none⟩) 16 c3,.int .i64 (V)]] wB fun e w'=>∃L',e = .returned (.agg #[.slice L'.a1 N2.comps.length L'.c1,.slice L'.a2 N2.parts.length L'.c2,.slice L'.a3 N2.ctxs.length L'.c3,.int .i64 N2.part])∧
     (∀W2,KepX (fun b=>b<w.heap.size∨b=w.heap.size+1∨b=NB) w' W2→NIs N2 L' W2)∧KepX (fun b=>(Value.slice (some ⟨g2,0,none⟩) k c2).ownBlock=some b) wB w' from fun V wB hV hkB hop=>by
    have h1:=HP1.out (by rw[Hpt.out,hV];exact hop) ⟨some ⟨gC,0,none⟩,c1,some ⟨g2,0,none⟩,c2,some ⟨gX,0,none⟩,c3,ys⟩ wB (fun b=>b<w.heap.size∨b=w.heap.size+1∨b=NB)
     (hkB.toBelow hBr (fun b e=>by have e:b=w.heap.size+1∨b=NB:=e;omega)) (fun b e=>zaF (e.elim (fun h=>by have h3:=hzr2 (w.heap.size+1) (.inl rfl);omega) (hzr2 b)) hkB.size)
     (by
       rw[Hnc.out,Hpt.out,hV];exact fun W2 h2=>HNI.out V W2 ((hkB.mono (fun b _ h=>.inr h)).trans h2))
     (by
       rw[Hnc.out];show wB.ownsRow w.heap.size 78 16 (.slice (some ⟨g2,0,none⟩) (S14.parts1 G N.parts k).length c2) (S14.parts1 G N.parts k).length (PCs (S14.parts1 G N.parts k) ys);rw[hlm];exact zcZ (zdG hown.out hkB (fun g e=>by have e:some g2=some g:=e;cases e;show¬(_=_∨_=_);omega)) (by omega))
     (by
       rw[Hnc.out];intro j p y h1 h3;have hjk:j<k:=by have h4:j<ys.length:=(List.getElem?_eq_some_iff.1 h3).1;omega
       refine((hrob.out j p y hjk h1 h3).change (fun b _ hb=> ?_)).kep (hkB.mono (fun b _ hb=>.inl (.inr hb)));rcases hb with(h|h|h)|h
       ·exact .inl h
       ·exact .inr (.inl h)
       ·exact .inr (.inr (.inl h))
       ·have h:(Value.slice (some ⟨g2,0,none⟩) (S14.parts1 G N.parts k).length c2).ownBlock=some b:=h;exact .inr (.inr (.inr (zK h).symm)))
     (fun b hb=>by
       have hb:some g2=some b:=hb;have:=zK hb;show¬(_<_∨_=_∨_=_);omega)
     (fun W2 h2=>by
       have h2:KepX (fun b=>(b<w.heap.size∨b=w.heap.size+1∨b=NB)∨some g2=some b) wB W2:=h2
       refine⟨((HrC.out.kepX hKX (fun g o e=>by cases e;exact hneCP)).kepX hkB (fun g o e=>by cases e;show¬(_=_∨_=_);omega)).kepX h2 (fun g o e=>by cases e;exact fun h=>h.elim (fun h=>by omega) (fun h=>hneCP (zK h).symm)),
        ((HrX.out.kepX hKX (fun g o e=>by cases e;exact hneXP)).kepX hkB (fun g o e=>by cases e;show¬(_=_∨_=_);omega)).kepX h2 (fun g o e=>by cases e;exact fun h=>h.elim (fun h=>by omega) (fun h=>hneXP (zK h).symm))⟩)
    unfold NV zdN at h1;rw[Hnc.out,Hpt.out,hV]at h1;simp only[hlm,Hnc.out,Hnx.out]at h1;exact h1)
   clear hNI hown hrob hKX;have hp:=Hpp.out;have hb01:0≤bit∧bit≤1:=by rcases Hb01.out with h|h<;>omega
   obtain⟨hp1,hp2⟩:=hp;obtain⟨hb0,hb1⟩:=hb01;have c03:=kr.cell 3;have f3:=nr.cell 3;have f3f:=nr.free 3;have nA:=nr.set 3 (.int .i64 (2*pt+bit));have rA:=rr.other NB 3 (.int .i64 (2*pt+bit)) (by omega);have hkA:KepX (fun b=>b=w.heap.size+1∨b=NB) wr (wr.setCell ⟨NB,3,none⟩ (.int .i64 (2*pt+bit))):=KepX.row (zbO wr NB 3 (.int .i64 (2*pt+bit))) (fun b e=>.inl (.inr (zK e).symm));have a3:=nA.cell 3;have a3f:=nA.free 3;simp only[sC0,sCs,lgz,lgs]at c03 f3 nA a3;by_cases hgt:255<2*pt+bit
   ·have hnx:S14.next pt bit=1:=by unfold S14.next;rw[zO (by omega)]
    have hop:S14.opens 1:=.inl rfl;have nB:=nA.set 3 (.int .i64 1);have rB:=rA.other NB 3 (.int .i64 1) (by omega);have hkB:=hkA.trans (KepX.row (X:=fun b=>b=w.heap.size+1∨b=NB) (zbO (wr.setCell ⟨NB,3,none⟩ (.int .i64 (2*pt+bit))) NB 3 (.int .i64 1)) (fun b e=>.inl (.inr (zK e).symm)));have b3:=nB.cell 3;simp only[sC0,sCs,lgz,lgs]at nB b3;clear nr rr kr nA rA hkA;have HTo:=HT.out (1) _ hnx hkB hop;go_wp2_with (first
     | (refine yA 40 (.tmp 8) (by rfl) (by rfl) NB (by rfl) [.slice (some ⟨gC,0,none⟩) k c1,.slice (some ⟨g2,0,none⟩) k c2,.slice (some ⟨gX,0,none⟩) 16 c3,.int .i64 (1)] 40 nB _ Tryz.underlying40 rfl info_N ?_))
    refine HTo.mono ?_;rintro e w8 ⟨L',rfl,hN',hk8⟩;have n8:=nB.kepX hk8 (fun e=>by have e:some g2=some NB:=e;have:=zK e;omega);have r8:=rB.kepX hk8 (fun e=>by have e:some g2=some (w.heap.size+1):=e;have:=zK e;omega);have B8:=hk8.toBelow (hkB.toBelow hBr (fun b e=>by have e:b=w.heap.size+1∨b=NB:=e;omega)) (fun b e=>by have e:some g2=some b:=e;have:=zK e;omega);have HN':=zB hN';clear hN' hk8 nB rB hkB HTo;go_wp2_with (first
     | (refine zT 40 (.tmp 8) (.tmp 83) (by rfl) (by rfl) NB (by rfl) [.slice L'.a1 N2.comps.length L'.c1,.slice L'.a2 N2.parts.length L'.c2,.slice L'.a3 N2.ctxs.length L'.c3,.int .i64 N2.part] (by rfl) _ 40 n8 info_N rfl (by simp[Value.oneCell']) ?_;intro wM EM gM sM;have rM:=r8.keptRow gM (by simp;omega))
     | (refine yA 40 (.tmp 8) (by rfl) (by rfl) NB (by rfl) [.slice L'.a1 N2.comps.length L'.c1,.slice L'.a2 N2.parts.length L'.c2,.slice L'.a3 N2.ctxs.length L'.c3,.int .i64 N2.part] 40 EM _ Tryz.underlying40 rfl info_N ?_)
     | (refine zT 40 (.tmp 4) (.tmp 84) (by rfl) (by rfl) (w.heap.size+1) (by rfl) [.slice L'.a1 N2.comps.length L'.c1,.slice L'.a2 N2.parts.length L'.c2,.slice L'.a3 N2.ctxs.length L'.c3,.int .i64 N2.part] (by rfl) _ 40 rM info_N rfl (by simp[Value.oneCell']) ?_;intro wR ER gR sR))
    have hL:=run_loadVar_mid wR _ 0 _ _ _ ER.cells Tryz.underlying40 rfl info_N;refine bodyPost_ret (v:=.tuple #[.agg #[.slice L'.a1 N2.comps.length L'.c1,.slice L'.a2 N2.parts.length L'.c2,.slice L'.a3 N2.ctxs.length L'.c3,.int .i64 N2.part],.int .i64 0]) ?_ rfl ?_
    ·exact zaI (show Tryz.f19.results = #[.cell 4 40,.tmp 5]from rfl) (p:=⟨w.heap.size+1,0,none⟩) rfl rfl hL
    ·exact⟨L',rfl,fun W hW=>HN'.out W (((KepX.row gM (fun b e=>.inl (.inr (.inr (zK e).symm)))).trans (KepX.row gR (fun b e=>.inl (.inr (.inl (zK e).symm))))).trans (hW.mono (fun b _ h=>.inl h))),(B8.trans (yG gM (by omega) B8.size)).trans (yG gR (by omega) (by have:=B8.size;omega))⟩
   ·have hnx0:S14.next pt bit=2*pt+bit:=by unfold S14.next;rw[zG (by omega)]
    have hne1:2*pt+bit≠1:=by omega
    have hq1:(2*pt+bit==1)=false:=by simpa using hne1
    have nB:=nA;have rB:=rA;have hkB:=hkA;have hnx:=hnx0;clear nr rr kr nA rA hkA;by_cases h16:(2*pt+bit)/16=1
    ·have hop:S14.opens (2*pt+bit):=.inr (by omega);have hq2:((2*pt+bit)/16==1)=true:=by simpa using h16
     have HTo:=HT.out (2*pt+bit) _ hnx hkB hop;go_wp2_with (first
      | (refine yA 40 (.tmp 8) (by rfl) (by rfl) NB (by rfl) [.slice (some ⟨gC,0,none⟩) k c1,.slice (some ⟨g2,0,none⟩) k c2,.slice (some ⟨gX,0,none⟩) 16 c3,.int .i64 (2*pt+bit)] 40 nB _ Tryz.underlying40 rfl info_N ?_))
     refine HTo.mono ?_;rintro e w8 ⟨L',rfl,hN',hk8⟩;have n8:=nB.kepX hk8 (fun e=>by have e:some g2=some NB:=e;have:=zK e;omega);have r8:=rB.kepX hk8 (fun e=>by have e:some g2=some (w.heap.size+1):=e;have:=zK e;omega);have B8:=hk8.toBelow (hkB.toBelow hBr (fun b e=>by have e:b=w.heap.size+1∨b=NB:=e;omega)) (fun b e=>by have e:some g2=some b:=e;have:=zK e;omega);have HN':=zB hN';clear hN' hk8 nB rB hkB HTo;go_wp2_with (first
      | (refine zT 40 (.tmp 8) (.tmp 83) (by rfl) (by rfl) NB (by rfl) [.slice L'.a1 N2.comps.length L'.c1,.slice L'.a2 N2.parts.length L'.c2,.slice L'.a3 N2.ctxs.length L'.c3,.int .i64 N2.part] (by rfl) _ 40 n8 info_N rfl (by simp[Value.oneCell']) ?_;intro wM EM gM sM;have rM:=r8.keptRow gM (by simp;omega))
      | (refine yA 40 (.tmp 8) (by rfl) (by rfl) NB (by rfl) [.slice L'.a1 N2.comps.length L'.c1,.slice L'.a2 N2.parts.length L'.c2,.slice L'.a3 N2.ctxs.length L'.c3,.int .i64 N2.part] 40 EM _ Tryz.underlying40 rfl info_N ?_)
      | (refine zT 40 (.tmp 4) (.tmp 84) (by rfl) (by rfl) (w.heap.size+1) (by rfl) [.slice L'.a1 N2.comps.length L'.c1,.slice L'.a2 N2.parts.length L'.c2,.slice L'.a3 N2.ctxs.length L'.c3,.int .i64 N2.part] (by rfl) _ 40 rM info_N rfl (by simp[Value.oneCell']) ?_;intro wR ER gR sR))
     have hL:=run_loadVar_mid wR _ 0 _ _ _ ER.cells Tryz.underlying40 rfl info_N;refine bodyPost_ret (v:=.tuple #[.agg #[.slice L'.a1 N2.comps.length L'.c1,.slice L'.a2 N2.parts.length L'.c2,.slice L'.a3 N2.ctxs.length L'.c3,.int .i64 N2.part],.int .i64 0]) ?_ rfl ?_
     ·exact zaI (show Tryz.f19.results = #[.cell 4 40,.tmp 5]from rfl) (p:=⟨w.heap.size+1,0,none⟩) rfl rfl hL
     ·exact⟨L',rfl,fun W hW=>HN'.out W (((KepX.row gM (fun b e=>.inl (.inr (.inr (zK e).symm)))).trans (KepX.row gR (fun b e=>.inl (.inr (.inl (zK e).symm))))).trans (hW.mono (fun b _ h=>.inl h))),(B8.trans (yG gM (by omega) B8.size)).trans (yG gR (by omega) (by have:=B8.size;omega))⟩
    ·have hop:¬S14.opens (2*pt+bit):=fun h=>by
      rcases h with h|h
      ·omega
      ·omega
     have hq2:((2*pt+bit)/16==1)=false:=by simpa using h16
     have e2:=HP0.out (by rw[Hpt.out,hnx0];exact hop);have hNf:=HNI.out (2*pt+bit);rw[Hnc.out,Hpt.out,hnx0]at e2;have HN2:=zB e2;clear e2;have HNf:=zB hNf;clear hNf;go_wp2_with (first
      | (refine yA 40 (.tmp 8) (by rfl) (by rfl) NB (by rfl) [.slice (some ⟨gC,0,none⟩) k c1,.slice (some ⟨g2,0,none⟩) k c2,.slice (some ⟨gX,0,none⟩) 16 c3,.int .i64 (2*pt+bit)] 40 nB _ Tryz.underlying40 rfl info_N ?_)
      | (refine zT 40 (.tmp 4) (.tmp 84) (by rfl) (by rfl) (w.heap.size+1) (by rfl) [.slice (some ⟨gC,0,none⟩) k c1,.slice (some ⟨g2,0,none⟩) k c2,.slice (some ⟨gX,0,none⟩) 16 c3,.int .i64 (2*pt+bit)] (by rfl) _ 40 rB info_N rfl (by simp[Value.oneCell']) ?_;intro wR ER gR sR))
     have hL:=run_loadVar_mid wR _ 0 _ _ _ ER.cells Tryz.underlying40 rfl info_N;have Bf:=hkB.toBelow hBr (fun b e=>by have e:b=w.heap.size+1∨b=NB:=e;omega);refine bodyPost_ret (v:=.tuple #[.agg #[.slice (some ⟨gC,0,none⟩) k c1,.slice (some ⟨g2,0,none⟩) k c2,.slice (some ⟨gX,0,none⟩) 16 c3,.int .i64 (2*pt+bit)],.int .i64 0]) ?_ rfl ?_
     ·exact zaI (show Tryz.f19.results = #[.cell 4 40,.tmp 5]from rfl) (p:=⟨w.heap.size+1,0,none⟩) rfl rfl hL
     ·refine⟨⟨some ⟨gC,0,none⟩,c1,some ⟨g2,0,none⟩,c2,some ⟨gX,0,none⟩,c3,ys⟩,?_,?_,Bf.trans (yG gR (by omega) Bf.size)⟩
      ·rw[HN2.out];simp only[hlm,Hnc.out,Hnx.out]
      ·rw[HN2.out];exact fun W hW=>HNf.out W (((hkB.mono (fun b _ h=>.inr h)).trans (KepX.row gR (fun b e=>.inl (.inr (.inl (zK e).symm))))).trans (hW.mono (fun b _ h=>.inl h)))
