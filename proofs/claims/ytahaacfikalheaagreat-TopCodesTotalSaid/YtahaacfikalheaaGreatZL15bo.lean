/- A part of the proof of L15. No condition. -/
import Derived.Test.YtahaacfikalheaaGreatZL15bk
import Derived.Test.YtahaacfikalheaaGreatZL15bl
set_option linter.all false
set_option maxRecDepth 100000
set_option maxHeartbeats 20000000
namespace Go.Proofs.YtahaacfikalheaaGreat
open Go.RowKit
def S14.open1(N:S14.N)(k:Nat)(p:S14.P):S14.P:=
 {p with sb:=S10.openB p.sb p.sd,sd:=S10.openX p.sb p.sd (S14.hash (N.ctxs.getD k 0) N.part.toNat),slot:=(S10.openN p.sb p.sd (S14.hash (N.ctxs.getD k 0) N.part.toNat):Nat)}
def S14.openP(N:S14.N)(k:Nat)(p:S14.P):S14.P:=if(N.comps[k]?).map (·.kind)=some 2 then S14.open1 N k p else p
def S14.openK(N:S14.N):Nat→List S14.P
 | 0=>N.parts
 | k+1=>match (S14.openK N k)[k]? with
   | some p=>(S14.openK N k).set k (S14.openP N k p)
   | none=>S14.openK N k
def S14.opened(N:S14.N):S14.N:=⟨N.comps,S14.openK N N.comps.length,N.ctxs,N.part⟩
theorem S14.openK_length(N:S14.N):∀k,(S14.openK N k).length=N.parts.length
 | 0=>rfl
 | k+1=>by
   rw[S14.openK];split
   ·rw[yT,S14.openK_length N k]
   ·exact S14.openK_length N k
theorem S14.openK_hist{N:S14.N}{k:Nat}{p:S14.P}{c:S14.C}(hp:(S14.openK N k)[k]? = some p)(hc:N.comps[k]? = some c)(h:c.kind=2):S14.openK N (k+1)=(S14.openK N k).set k (S14.open1 N k p):=by
 rw[S14.openK,hp];show(S14.openK N k).set k (S14.openP N k p)=_;unfold S14.openP;rw[hc,zO (by rw[Option.map_some,h])]
theorem S14.openK_plain{N:S14.N}{k:Nat}{c:S14.C}(hc:N.comps[k]? = some c)(h:c.kind≠2):S14.openK N (k+1)=S14.openK N k:=by
 rw[S14.openK];split
 ·rename_i p hp
  unfold S14.openP;rw[hc,zG (by rw[Option.map_some];exact fun e=>h (zK e))];obtain⟨h1,h2⟩:=List.getElem?_eq_some_iff.1 hp;rw[←h2];exact List.set_getElem_self h1
 ·rfl
theorem zpB{α:Type}(xs:List α)(o n:Nat)(vs:List α)(hn:vs.length=n)(h:o+n≤xs.length)(j:Nat):(ziP xs o vs)[j]? = if o≤j∧j<o+n then vs[j-o]? else xs[j]? :=by
 subst hn;unfold ziP;by_cases h1:j<o
 ·rw[zaN (by rw[yJ];omega),zbG,zO h1,zG (by omega)]
 ·rw[yQ (by rw[yJ];omega),yJ,zbF (by omega)];by_cases h2:j<o+vs.length
  ·rw[zaN (by omega),zO ⟨by omega,h2⟩]
  ·rw[yQ (by omega),List.getElem?_drop,zG (by omega)]
   congr 1;omega
theorem PCs_open{ps:List S14.P}{ys:List Lay}{k:Nat}{p:S14.P}{y:Lay}(hl:ys.length=ps.length)(hp:ps[k]? = some p)(hy:ys[k]? = some y)(B:Int)(XX:List Int)(NN:Int)(a:Option Addr)(cap:Nat) :
 ziP (ziP (PCs ps ys) (k*16+1) [.int .i64 B,.slice a XX.length cap]) (k*16+3) [.int .i64 NN]=PCs (ps.set k {p with sb:=B,sd:=XX,slot:=NN}) (ys.set k {y with a2:=a,c2:=cap}):=by
 have hk:k<ps.length:=(List.getElem?_eq_some_iff.1 hp).1;have hlen:=zgQ ps ys hl;rw[PCs_put ps ys k _ _ hl hk];apply List.ext_getElem?;intro j;have h2:(ziP (PCs ps ys) (k*16+1) [.int .i64 B,.slice a XX.length cap]).length=(PCs ps ys).length:=zhR _ _ _ (by simp;omega);rw[zpB _ _ 1 _ rfl (by rw[h2];omega),zpB _ _ 2 _ rfl (by omega),zpB _ _ 16 _ (zbE _ _) (by omega)];by_cases hj:k*16≤j∧j<k*16+16
 ·rw[zO hj];obtain⟨i,rfl⟩:∃i,j=16*k+i:=⟨j-16*k,by omega⟩;have hi:i<16:=by omega
  have hE:=PCs_at ps ys hp hy hi;rw[hE,show 16*k+i-k*16=i by omega];by_cases h3:i=3
  ·subst h3;rw[zO (by omega),show 16*k+3-(k*16+3)=0 by omega];rfl
  ·rw[zG (by omega)];by_cases h1:i=1
   ·subst h1;rw[zO (by omega),show 16*k+1-(k*16+1)=0 by omega];rfl
   ·by_cases h2:i=2
    ·subst h2;rw[zO (by omega),show 16*k+2-(k*16+1)=1 by omega];rfl
    ·rw[zG (by omega)];obtain rfl|rfl|rfl|rfl|rfl|rfl|rfl|rfl|rfl|rfl|rfl|rfl|rfl:i=0∨i=4∨i=5∨i=6∨i=7∨i=8∨i=9∨i=10∨i=11∨i=12∨i=13∨i=14∨i=15:=by omega
     all_goals rfl
 ·rw[zG hj,zG (by omega),zG (by omega)]
theorem Tab.kepX{X:Nat→Prop}{w w':World}{xs:List Int}{a:Option Addr}{cap:Nat}(h:Tab xs a cap w)(hk:KepX X w w')(hf:∀g o,a=some ⟨g,o,none⟩→¬X g):Tab xs a cap w':=⟨h.ok,h.cap,h.rd.kepX hk hf⟩
theorem PIs.opened{p:S14.P}{y:Lay}{w:World}(h:PIs p y w){B:Int}{XX:List Int}{NN:Int}{a:Option Addr}{cap:Nat}(ht:Tab XX a cap w):PIs {p with sb:=B,sd:=XX,slot:=NN} {y with a2:=a,c2:=cap} w:=⟨h.rc,ht,h.mch,h.mix,h.apm⟩
theorem zsY{P:Program}{Y:Array Value→Nat→Option Bool}{Q:Exit→Act→World→Prop}{S:World→Prop}{G:Act→World→Prop}{w:World}{rest:Plan Oper}{o:Oper}{a:Act}(ty:TypeId)(x y:Operand)(ho:o.op = .store ty x y)(hw:Region.wanted o (Y a.tmps)=true)
 (b oo:Nat) (cells:Array Value) (hx:a.eval x = .pointer (some ⟨b,oo,none⟩)) (hy:a.eval y = .agg cells) (ht:w.there b oo cells.size) (hi:(P.info? ty).map (·.size)=some cells.size) (h1:cells.all (·.oneCell')=true)
 (h:S (w.setCells b oo cells.toList)∧zbP P Y Q S G rest (a.put o.dst undef) (w.setCells b oo cells.toList)):zbP P Y Q S G (.one o rest) a w:=by
 unfold zbP;rw[zO hw];exact .inl (wp_store_mid ty x y ho b oo cells hx hy ht hi h1 h)
theorem zsX{P:Program}{Y:Array Value→Nat→Option Bool}{Q:Exit→Act→World→Prop}{S:World→Prop}{G:Act→World→Prop}{w w':World}{rest:Plan Oper}{o:Oper}{a:Act}(hw:Region.wanted o (Y a.tmps)=true)(hr:(execOp a.eval o).run P w = .ok .skip w')(h:S w'∧zbP P Y Q S G rest (a.put o.dst undef) w'):zbP P Y Q S G (.one o rest) a w:=by
 unfold zbP;rw[zO hw];exact .inl (by unfold Oper.wp;rw[hr];exact h)
theorem isHist(v:Array Value)(w:World):(Instr.typeAssert (.iface 113 (.agg v)) 80 113 true).run Tryz.prog w = .ok (.tuple #[.agg v,.bool true]) w:=by kernel_rfl
theorem zpX:(Tryz.prog.info? 68).map (·.size)=some 2:=by kernel_rfl
theorem opened_is{N:S14.N}{X:Nat→Prop}{w0 wr:World}{a1 a3:Option Addr}{g2 c1 c2 c3 base n:Nat}{ps:List S14.P}{ys ys0:List Lay}(h0:NIs N ⟨a1,c1,some ⟨g2,0,none⟩,c2,a3,c3,ys0⟩ w0)(hXg:¬X g2)
 (hR:∀W2,KepX (fun k=>X k∨k=g2) w0 W2→Rd W2 a1 (zhK N.comps)∧Rd W2 a3 (zhJ N.ctxs)) (hl:ps.length=N.parts.length) (hn:N.parts.length=n) (hk:KepX (fun k=>k=g2) w0 wr) (hys:ys.length=n)
 (hown:wr.ownsRow base 78 16 (.slice (some ⟨g2,0,none⟩) n c2) n (PCs ps ys)) (hrob:∀(j:Nat) (p:S14.P) (y:Lay),ps[j]? = some p→ys[j]? = some y→PRobX (fun k=>X k∨k=g2) p y wr) :
 ∀W2,KepX X wr W2→NIs ⟨N.comps,ps,N.ctxs,N.part⟩ ⟨a1,c1,some ⟨g2,0,none⟩,c2,a3,c3,ys⟩ W2:=fun W2 h2=>
 have hT:=hR W2 ((hk.mono (fun _ _ h=>.inr h)).trans (h2.mono (fun _ _ h=>.inl h)))
 {rc:=hT.1
  rp:=(Rd.of_owns hown).kepX h2 (fun g o e=>by cases e;exact hXg)
  rx:=hT.2
  ly:=by rw[hl,hn];exact hys
  ps:=fun j p y h1 h3=>hrob j p y h1 h3 W2 (h2.mono (fun _ _ h=>.inl h))
  xs:=h0.xs
  l1:=h0.l1
  l2:=by rw[hl];exact h0.l2
  l3:=h0.l3}
theorem ztG(w:World)(N:S14.N)(hl0:1≤N.comps.length)(hl:N.comps.length≤16)(hk6:∀c∈N.comps,0≤c.kind∧c.kind≤6)(hpl:N.parts.length=N.comps.length)(hxl:N.ctxs.length=16)(hp1:1≤N.part)(hp2:N.part≤255):ziH w N (S14.opened N):=by
 intro L w0 X hW hX hNI hOwn hRob hXg hR;obtain⟨a1,c1,a2,c2,a3,c3,ys0⟩:=L;obtain⟨g2,hg0,hg1,hg2,hg3,hg4⟩:=zdQ hOwn (by omega);simp only at hg0;subst hg0;have hXn:¬X g2:=hXg g2 rfl;clear hXg;have hRob2:∀(j:Nat) (p:S14.P) (y:Lay),N.parts[j]? = some p→ys0[j]? = some y→PRobX (fun k=>X k∨k=g2) p y w0:=fun j p y h1 h2=>(hRob j p y h1 h2).change (fun k _ hk=>hk.elim .inl (fun e=>.inr (by rw[e];rfl)));have hR2:∀W2,KepX (fun k=>X k∨k=g2) w0 W2→Rd W2 a1 (zhK N.comps)∧Rd W2 a3 (zhJ N.ctxs):=fun W2 h=>hR W2 (h.mono (fun k _ hk=>hk.elim .inl (fun e=>.inr (by rw[e];rfl))));have h0:=hNI w0 (KepX.refl _ _);obtain⟨gC,oC,ha1,_⟩:=h0.rc (fun e=>by have h:=yS List.length e;rw[zbB,List.length_nil]at h;omega);simp only at ha1;subst ha1;obtain⟨pt,hpt⟩:∃n:Nat,N.part=(n:Int):=⟨N.part.toNat,by omega⟩;have hpt2:pt<4294967296:=by omega
 obtain⟨nc,hnc⟩:∃n,N.comps.length=n:=⟨_,rfl⟩;have hnp:N.parts.length=nc:=hpl.trans hnc
 have hIS:=zB fun(k:Nat) (ys:List Lay) (wr:World) (h1:KepX (fun k=>k=g2) w0 wr) (h2:ys.length=nc) (h3:wr.ownsRow w.heap.size 78 16 (.slice (some ⟨g2,0,none⟩) nc c2) nc (PCs (S14.openK N k) ys)) (h4:∀(j:Nat) (p:S14.P) (y:Lay),(S14.openK N k)[j]? = some p→ys[j]? = some y→PRobX (fun b=>X b∨b=g2∨b=w0.heap.size+1) p y wr)=>
  opened_is (ps:=S14.openK N k) h0 hXn hR2 (S14.openK_length N k) hnp h1 h2 h3 (fun j p y e1 e2=>(h4 j p y e1 e2).change (fun b _ h=>h.elim .inl (fun h=>.inr (.inl h))))
 have hOwn2:w0.ownsRow w.heap.size 78 16 (.slice (some ⟨g2,0,none⟩) nc c2) nc (PCs N.parts ys0):=hnp▸hOwn;have hys0:ys0.length=nc:=h0.ly.trans hnp;have eV:NV N ⟨some ⟨gC,oC,none⟩,c1,some ⟨g2,0,none⟩,c2,a3,c3,ys0⟩ = .agg #[.slice (some ⟨gC,oC,none⟩) nc c1,.slice (some ⟨g2,0,none⟩) nc c2,.slice a3 16 c3,.int .i64 (pt:Int)]:=by
  unfold NV zdN;rw[hnc,hnp,hxl,hpt]
 rw[eV]
 have Hfin:=zB fun(ys:List Lay)=>(show NV (S14.opened N) ⟨some ⟨gC,oC,none⟩,c1,some ⟨g2,0,none⟩,c2,a3,c3,ys⟩ = .agg #[.slice (some ⟨gC,oC,none⟩) nc c1,.slice (some ⟨g2,0,none⟩) nc c2,.slice a3 16 c3,.int .i64 (pt:Int)] by
  unfold NV zdN S14.opened;simp only[hnc,S14.openK_length,hnp,hxl,hpt])
 have HO:=zB fun(x:S14.C) W=>(show Calls Tryz.prog 26 #[.agg #[.int .i64 x.kind,.int .i64 x.bits,.int .i64 x.limit,.int .i64 x.rate,.int .i64 x.first,.int .i64 x.second]] W _ from ziL x W);have Hk6:=zB hk6;have Hnc:=zB hnc;have Hnp:=zB hnp;have Hxl:=zB hxl;have Hpt:=zB hpt;have HXs:=zB hX;have HXg:=zB hXn;have hncl:nc≤16:=by omega
 obtain⟨W1,hW1⟩:∃W1,(w0.alloc (.cells #[.slice (some ⟨gC,oC,none⟩) nc c1,.slice (some ⟨g2,0,none⟩) nc c2,.slice a3 16 c3,.int .i64 (pt:Int)] 40)).alloc (.cells zN 40)=W1:=⟨_,rfl⟩;have k1:Blk W1 w0.heap.size [.slice (some ⟨gC,oC,none⟩) nc c1,.slice (some ⟨g2,0,none⟩) nc c2,.slice a3 16 c3,.int .i64 (pt:Int)] 40:=by rw[←hW1];exact(Blk.new w0 _ _).alloc _
 have k2:Blk W1 (w0.heap.size+1) [.slice none 0 0,.slice none 0 0,.slice none 0 0,.int .i64 0] 40:=by
  rw[←hW1];have h:=Blk.new (w0.alloc (.cells #[.slice (some ⟨gC,oC,none⟩) nc c1,.slice (some ⟨g2,0,none⟩) nc c2,.slice a3 16 c3,.int .i64 (pt:Int)] 40)) [.slice none 0 0,.slice none 0 0,.slice none 0 0,.int .i64 0] 40;rwa[zV]at h
 have B1:Below w0.heap.size w0 W1:=by rw[←hW1];exact((zF _ _).alloc (zD _) _).alloc (by simp) _
 have KX1:KepX (fun k=>k=g2) w0 W1:=KepX.below B1;have own1:=zB (yX (B:=0) hOwn2 B1);have rob1:=zB (show∀(j:Nat) (p:S14.P) (y:Lay),N.parts[j]? = some p→ys0[j]? = some y→PRobX (fun b=>X b∨b=g2∨b=w0.heap.size+1) p y W1 from fun j p y h1 h2=>((hRob2 j p y h1 h2).change (X':=fun b=>X b∨b=g2∨b=w0.heap.size+1) (fun b hb h=>h.elim .inl (fun h=>h.elim .inr (fun h=>by omega)))).kep (KepX.below B1));have hy1:=zB hys0;unfold zN at hW1;have c0:=k1.cell 0;simp only[lgz]at c0;clear hNI hOwn hRob hR hOwn2 hRob2 hR2 h0 hnc hnp hxl hpt hpl hl hl0 hk6 eV hX hXn hys0 hp1 hp2 B1;go_enter Tryz.func27,Tryz.ntmps27;go_wp2_with (rw[hW1]);clear c0
 go_loopw [9] (fun i wr=>∃(k:Nat) (ys:List Lay),k≤nc∧i = .int .i64 (k:Int)∧Hid (ys.length=nc)∧Blk wr w0.heap.size [.slice (some ⟨gC,oC,none⟩) nc c1,.slice (some ⟨g2,0,none⟩) nc c2,.slice a3 16 c3,.int .i64 (pt:Int)] 40∧
  Blk wr (w0.heap.size+1) [.slice none 0 0,.slice none 0 0,.slice none 0 0,.int .i64 0] 40∧KepX (fun b=>b=g2) w0 wr∧
  Hid (wr.ownsRow w.heap.size 78 16 (.slice (some ⟨g2,0,none⟩) nc c2) nc (PCs (S14.openK N k) ys))∧
  Hid (∀(j:Nat) (p:S14.P) (y:Lay),(S14.openK N k)[j]? = some p→ys[j]? = some y→PRobX (fun b=>X b∨b=g2∨b=w0.heap.size+1) p y wr)) (fun i _=>nc-(intOf i).toNat)
 case atStart=>exact⟨0,ys0,by omega,rfl,hy1,k1,k2,KX1,own1,rob1⟩
 case round=>
  clear k1 k2 KX1 hW1 own1 rob1 hy1;obtain⟨k,ys,hk,rfl,hys,k1,k2,hKX,hown,hrob⟩:=hrel;have hzr:=hKX.size;by_cases hlt:k<nc
  ·have hkz:(k:Int)<(nc:Int):=by omega
   obtain⟨x,hx⟩:∃x,N.comps[k]? = some x:=⟨_,zE (by have:=Hnc.out;omega)⟩;have hNr:=hIS.out k ys wr hKX hys.out hown.out hrob.out wr (KepX.refl _ _);obtain⟨g',o',hga,x0,x1,x2,x3,x4,x5⟩:=hNr.comp_at hx;cases hga;have hkd:=Hk6.out x (zdB hx);have hb5:Below wr.heap.size wr (wr.alloc (.cells #[.int .i64 x.kind,.int .i64 x.bits,.int .i64 x.limit,.int .i64 x.rate,.int .i64 x.first,.int .i64 x.second] 37)):=(zF _ _).alloc (zD _) _;have HNr:=zB hNr;have Hx:=zB hx;clear hNr;go_wp2_with fail;refine(HO.out x _).mono ?_;rintro e w2 ⟨rfl,hb2⟩;have hb25:=zA hb5 hb2;have k12:=k1.step hb25;have k22:=k2.step hb25;have KX2:=hKX.trans (KepX.below hb25);clear x0 x1 x2 x3 x4 x5 hx k1 k2 hb5 hb2;by_cases k0:x.kind=0
   ·have hof:OfV x = .iface 111 (.agg #[.int .i64 x.kind,.int .i64 x.bits,.int .i64 x.limit,.int .i64 x.rate,.int .i64 x.first,.int .i64 x.second]):=by
     unfold OfV CV zZ;simp only[k0];rfl
    rw[hof];have hta:=znQ (.agg #[.int .i64 x.kind,.int .i64 x.bits,.int .i64 x.limit,.int .i64 x.rate,.int .i64 x.first,.int .i64 x.second]);have hop:=zB (S14.openK_plain Hx.out (by rw[k0];decide));have own2:=zB (yX (B:=0) hown.out hb25);have rob2:=zB fun j p y h1 h2=>(hrob.out j p y h1 h2).kep (KepX.below hb25);clear k0 hof hkd;go_wp2;go_roundw
    case rel=>exact⟨k+1,ys,by omega,by simp,hys,k12,k22,KX2,hop.out.symm▸own2,hop.out.symm▸rob2⟩
    case measure=>simp[intOf];omega
   by_cases k1:x.kind=1
   ·have hof:OfV x = .iface 112 (.agg #[.int .i64 x.kind,.int .i64 x.bits,.int .i64 x.limit,.int .i64 x.rate,.int .i64 x.first,.int .i64 x.second]):=by
     unfold OfV CV zZ;simp only[k1];rfl
    rw[hof];have hta:=zrI (.agg #[.int .i64 x.kind,.int .i64 x.bits,.int .i64 x.limit,.int .i64 x.rate,.int .i64 x.first,.int .i64 x.second]);have hop:=zB (S14.openK_plain Hx.out (by rw[k1];decide));have own2:=zB (yX (B:=0) hown.out hb25);have rob2:=zB fun j p y h1 h2=>(hrob.out j p y h1 h2).kep (KepX.below hb25);clear k1 hof hkd;go_wp2;go_roundw
    case rel=>exact⟨k+1,ys,by omega,by simp,hys,k12,k22,KX2,hop.out.symm▸own2,hop.out.symm▸rob2⟩
    case measure=>simp[intOf];omega
   by_cases k3:x.kind=3
   ·have hof:OfV x = .iface 114 (.agg #[.int .i64 x.kind,.int .i64 x.bits,.int .i64 x.limit,.int .i64 x.rate,.int .i64 x.first,.int .i64 x.second]):=by
     unfold OfV CV zZ;simp only[k3];rfl
    rw[hof];have hta:=zpI (.agg #[.int .i64 x.kind,.int .i64 x.bits,.int .i64 x.limit,.int .i64 x.rate,.int .i64 x.first,.int .i64 x.second]);have hop:=zB (S14.openK_plain Hx.out (by rw[k3];decide));have own2:=zB (yX (B:=0) hown.out hb25);have rob2:=zB fun j p y h1 h2=>(hrob.out j p y h1 h2).kep (KepX.below hb25);clear k3 hof hkd;go_wp2;go_roundw
    case rel=>exact⟨k+1,ys,by omega,by simp,hys,k12,k22,KX2,hop.out.symm▸own2,hop.out.symm▸rob2⟩
    case measure=>simp[intOf];omega
   by_cases k4:x.kind=4
   ·have hof:OfV x = .iface 115 (.agg #[.int .i64 x.kind,.int .i64 x.bits,.int .i64 x.limit,.int .i64 x.rate,.int .i64 x.first,.int .i64 x.second]):=by
     unfold OfV CV zZ;simp only[k4];rfl
    rw[hof];have hta:=zpJ (.agg #[.int .i64 x.kind,.int .i64 x.bits,.int .i64 x.limit,.int .i64 x.rate,.int .i64 x.first,.int .i64 x.second]);have hop:=zB (S14.openK_plain Hx.out (by rw[k4];decide));have own2:=zB (yX (B:=0) hown.out hb25);have rob2:=zB fun j p y h1 h2=>(hrob.out j p y h1 h2).kep (KepX.below hb25);clear k4 hof hkd;go_wp2;go_roundw
    case rel=>exact⟨k+1,ys,by omega,by simp,hys,k12,k22,KX2,hop.out.symm▸own2,hop.out.symm▸rob2⟩
    case measure=>simp[intOf];omega
   by_cases k5:x.kind=5
   ·have hof:OfV x = .iface 116 (.agg #[.int .i64 x.kind,.int .i64 x.bits,.int .i64 x.limit,.int .i64 x.rate,.int .i64 x.first,.int .i64 x.second]):=by
     unfold OfV CV zZ;simp only[k5];rfl
    rw[hof];have hta:=ztH (.agg #[.int .i64 x.kind,.int .i64 x.bits,.int .i64 x.limit,.int .i64 x.rate,.int .i64 x.first,.int .i64 x.second]);have hop:=zB (S14.openK_plain Hx.out (by rw[k5];decide));have own2:=zB (yX (B:=0) hown.out hb25);have rob2:=zB fun j p y h1 h2=>(hrob.out j p y h1 h2).kep (KepX.below hb25);clear k5 hof hkd;go_wp2;go_roundw
    case rel=>exact⟨k+1,ys,by omega,by simp,hys,k12,k22,KX2,hop.out.symm▸own2,hop.out.symm▸rob2⟩
    case measure=>simp[intOf];omega
   by_cases k6:x.kind=6
   ·have hof:OfV x = .iface 117 (.agg #[.int .i64 x.kind,.int .i64 x.bits,.int .i64 x.limit,.int .i64 x.rate,.int .i64 x.first,.int .i64 x.second]):=by
     unfold OfV CV zZ;simp only[k6];rfl
    rw[hof];have hta:=zpH (.agg #[.int .i64 x.kind,.int .i64 x.bits,.int .i64 x.limit,.int .i64 x.rate,.int .i64 x.first,.int .i64 x.second]);have hop:=zB (S14.openK_plain Hx.out (by rw[k6];decide));have own2:=zB (yX (B:=0) hown.out hb25);have rob2:=zB fun j p y h1 h2=>(hrob.out j p y h1 h2).kep (KepX.below hb25);clear k6 hof hkd;go_wp2;go_roundw
    case rel=>exact⟨k+1,ys,by omega,by simp,hys,k12,k22,KX2,hop.out.symm▸own2,hop.out.symm▸rob2⟩
    case measure=>simp[intOf];omega
   have k2':x.kind=2:=by omega
   have hof:OfV x = .iface 113 (.agg #[.int .i64 x.kind,.int .i64 x.bits,.int .i64 x.limit,.int .i64 x.rate,.int .i64 x.first,.int .i64 x.second]):=by
    unfold OfV CV zZ;simp only[k2'];rfl
   rw[hof];have hta:=isHist #[.int .i64 x.kind,.int .i64 x.bits,.int .i64 x.limit,.int .i64 x.rate,.int .i64 x.first,.int .i64 x.second];have hN2:=HNr.out.step hb25;obtain⟨g',o',p,y,hga,hp,hy,hcs,hP⟩:=hN2.part_at (k:=k) (by show k<(S14.openK N k).length;rw[S14.openK_length,Hnp.out];exact hlt);cases hga;have hp:(S14.openK N k)[k]? = some p:=hp;have hy:ys[k]? = some y:=hy;have hop:=S14.openK_hist hp Hx.out k2';unfold S14.open1 at hop;have hptn:N.part.toNat=pt:=by rw[Hpt.out];rfl
   rw[hptn]at hop;have hhl:=S14.hash_lt (N.ctxs.getD k 0) pt
   have HVh:∀W,Below w2.heap.size w2 W→Calls Tryz.prog 46 #[VV ⟨N.comps,S14.openK N k,N.ctxs,N.part⟩ ⟨some ⟨gC,oC,none⟩,c1,some ⟨g2,0,none⟩,c2,a3,c3,ys⟩ k (.slice none 0 0)] W fun e w'=>e = .returned (.int .u32 (S14.hash (N.ctxs.getD k 0) pt:Int))∧Below W.heap.size W w':=fun W hW=>
    zoK _ _ k _ W (hN2.step hW) (by show k<N.ctxs.length;rw[Hxl.out];omega) pt Hpt.out hpt2
   unfold VV at HVh;simp only[S14.openK_length,Hnc.out,Hnp.out,Hxl.out,Hpt.out]at HVh;obtain⟨hv,hhv⟩:∃h,S14.hash (N.ctxs.getD k 0) pt=h:=⟨_,rfl⟩;rw[hhv]at HVh hop hhl;have HOP:=fun(W:World) (hW:Below w2.heap.size w2 W)=>open10_any p.sb p.sd hv hhl y.a2 y.c2 W (hP.tab.step hW);have Hok:=zB (OK8.openX hP.tab.ok p.sb hv hhl);obtain⟨B,hB⟩:∃B,S10.openB p.sb p.sd=B:=⟨_,rfl⟩;obtain⟨XX,hXX⟩:∃B,S10.openX p.sb p.sd hv=B:=⟨_,rfl⟩;obtain⟨NN,hNN⟩:∃B,S10.openN p.sb p.sd hv=B:=⟨_,rfl⟩;obtain⟨EE,hEE⟩:∃B,S10.check p.sb p.sd=B:=⟨_,rfl⟩;rw[hB,hXX,hNN]at hop;simp only[hB,hXX,hNN,hEE]at HOP;rw[hXX]at Hok;unfold zhO at HOP;have q1:=hcs 1 _ rfl;have q2:=hcs 2 _ rfl;have q3:=hcs 3 _ rfl;simp only[yK]at q1 q2 q3;obtain⟨sb,hsb⟩:∃x,p.sb=x:=⟨_,rfl⟩;obtain⟨sl,hsl⟩:∃x,p.sd.length=x:=⟨_,rfl⟩;rw[hsb]at q1;rw[hsl]at q2;simp only[hsb,hsl]at HOP;have own2:=zB (yX (B:=0) hown.out hb25);have rob2:=zB fun j p y h1 h2=>(hrob.out j p y h1 h2).kep (KepX.below hb25);have HVH:=zB HVh;have HOp:=zB HOP;have Hop:=zB hop;have Hp:=zB hp;have Hy:=zB hy;have Hb25:=hb25.size;have n0:w2.cell? ⟨w0.heap.size,0,none⟩=some (.slice (some ⟨gC,oC,none⟩) nc c1):=k12.cell 0;have n1:w2.cell? ⟨w0.heap.size,1,none⟩=some (.slice (some ⟨g2,0,none⟩) nc c2):=k12.cell 1;have n2:w2.cell? ⟨w0.heap.size,2,none⟩=some (.slice a3 16 c3):=k12.cell 2;have n3:w2.cell? ⟨w0.heap.size,3,none⟩=some (.int .i64 (pt:Int)):=k12.cell 3;clear k0 k1 k3 k4 k5 k6 k2' hof hkd hN2 hcs hP hop hp hy hB hXX hNN hEE hsb hsl HVh HOP hhv hhl hptn hown hrob HNr hb25;have hSof:∀W,Blk W w0.heap.size [.slice (some ⟨gC,oC,none⟩) nc c1,.slice (some ⟨g2,0,none⟩) nc c2,.slice a3 16 c3,.int .i64 (pt:Int)] 40→zbT [(⟨w0.heap.size,0,none⟩,.slice (some ⟨gC,oC,none⟩) nc c1),(⟨w0.heap.size,1,none⟩,.slice (some ⟨g2,0,none⟩) nc c2),(⟨w0.heap.size,2,none⟩,.slice a3 16 c3),(⟨w0.heap.size,3,none⟩,.int .i64 (pt:Int))] W:=fun W h=>⟨h.cell 0,h.cell 1,h.cell 2,h.cell 3,yF⟩;go_wp2_with fail;refine zbU 21 0 (.read 0 (.read 1 (.read 2 (.read 3 (.read 4 (.read 6 (.read 7 (.read 8 (.two (.one 5 (.one 9 (.one 10 (.read 11 (.read 12 (.read 13 (.read 14 (.read 15 (.read 16 (.one 17 (.read 18 (.read 19 (.one 20 .done))))))))))))) (.one 9 (.one 5 (.one 10 (.read 11 (.read 12 (.read 13 (.read 14 (.read 15 (.read 16 (.one 17 (.read 18 (.read 19 (.one 20 .done)))))))))))))))))))))) _ _ o0P (zbT [(⟨w0.heap.size,0,none⟩,.slice (some ⟨gC,oC,none⟩) nc c1),(⟨w0.heap.size,1,none⟩,.slice (some ⟨g2,0,none⟩) nc c2),(⟨w0.heap.size,2,none⟩,.slice a3 16 c3),(⟨w0.heap.size,3,none⟩,.int .i64 (pt:Int))]) (by kernel_rfl) (yB 21 _).symm (by kernel_rfl) (by kernel_rfl) (by kernel_rfl) (by kernel_rfl) (hSof _ (k12.step (zF _ _).drew)) (fun Y Q4 F4 hY hF=> ?_);simp only[Plan.map,ltc,ltz,ldc,ldz,List.getD_cons_zero,List.getD_cons_succ]
   repeat
    apply zU (by rw[hY];rfl)
    ·intro w2 hS2;(try simp only[Keeps,zbT,Cells]at hS2);go_simp;with_reducible rfl
    simp only[zuI]
   have hbv0:Below w2.heap.size w2 w2.drew:=(zF _ _).drew;obtain⟨v0,hv0⟩:∃v,w2.drew=v:=⟨_,rfl⟩;rw[hv0]at hbv0⊢;have q10:=(hbv0.cell (zL q1)).trans q1;have q20:=(hbv0.cell (zL q2)).trans q2;refine zaT ?_ ?_;refine yR (by rw[hY];rfl) (by go_simp;first|with_reducible exact⟨rfl,rfl⟩|with_reducible rfl) (hSof _ (k12.step hbv0)) ?_;simp only[zuI];apply yH (by rw[hY];rfl)
   ·go_simp;with_reducible exact⟨rfl,rfl⟩
   refine(HVH.out _ hbv0).mono ?_;rintro e v1 ⟨rfl,hbv10⟩;have hbv1:=zA hbv0 hbv10;refine⟨_,rfl,hSof _ (k12.step hbv1),?_⟩;simp only[zuI]
   rotate_left
   apply yH (by rw[hY];rfl)
   ·go_simp;with_reducible exact⟨rfl,rfl⟩
   refine(HVH.out _ hbv0).mono ?_;rintro e v1 ⟨rfl,hbv10⟩;have hbv1:=zA hbv0 hbv10;refine⟨_,rfl,hSof _ (k12.step hbv1),?_⟩;simp only[zuI];have q11:=(hbv1.cell (zL q1)).trans q1;have q21:=(hbv1.cell (zL q2)).trans q2;refine yR (by rw[hY];rfl) (by go_simp;first|with_reducible exact⟨rfl,rfl⟩|with_reducible rfl) (hSof _ (k12.step hbv1)) ?_;simp only[zuI];clear q11 q21
   all_goals
    skip
    apply yH (by rw[hY];rfl)
    ·go_simp;with_reducible exact⟨rfl,rfl⟩
    refine(HOp.out _ hbv1).mono ?_;rintro e v2 ⟨V,rfl,TOv,hbv20⟩;have hbv2:=zA hbv1 hbv20;obtain⟨aT,cT,rfl,hT,hF8⟩:=TOv.open Hok.out;have hsz1:=hbv1.size;have hR2:=k22.lt;unfold zhO;refine⟨_,rfl,hSof _ (k12.step hbv2),?_⟩;simp only[zuI]
    repeat
     apply zU (by rw[hY];rfl)
     ·intro w2 hS2;(try simp only[Keeps,zbT,Cells]at hS2);go_simp;with_reducible rfl
     simp only[zuI]
    have own3:=yX (B:=0) own2.out hbv2;refine zsY 68 (.tmp 39) (.tmp 35) (by rfl) (by rw[hY];rfl) g2 (k*16+1) #[.int .i64 B,.slice aT XX.length cT] (by rfl) (by rfl) (zfS own3 (by show k*16+1+2≤nc*16;omega)) zpX (by simp[Value.oneCell']) ?_;obtain⟨vS,hvS⟩:∃W,v2.setCells g2 (k*16+1) (#[.int .i64 B,.slice aT XX.length cT]:Array Value).toList=W:=⟨_,rfl⟩;rw[hvS];have ownS:=zkC own3 (o:=k*16+1) (vs:=[.int .i64 B,.slice aT XX.length cT]) (by show k*16+1+2≤nc*16;omega);have gS:=yZ g2 [.int .i64 B,.slice aT XX.length cT] (k*16+1) v2;have s3:vS.cell? ⟨g2,k*16+3,none⟩=some (.int .i64 p.slot):=by
     rw[←hvS];exact(World.cell?_setCells_out g2 _ _ v2 _ (fun _ _=>.inr (by show k*16+1+2≤k*16+3;omega))).trans (hbv2.cell (zL q3) |>.trans q3)
    have hvS':v2.setCells g2 (k*16+1) [.int .i64 B,.slice aT XX.length cT]=vS:=hvS;rw[hvS']at ownS gS;have t3:=zfS ownS (o:=k*16+3) (k:=1) (by omega);have f3:vS.frozen? ⟨g2,k*16+3,none⟩=false:=(t3 0 (by omega)).2;have ownE:=zkC ownS (o:=k*16+3) (vs:=[.int .i64 (NN:Int)]) (by show k*16+3+1≤nc*16;omega);have kS12:=(k12.step hbv2).kepX (KepX.row (X:=fun b=>b=g2) gS (fun b e=>.inl (zK e).symm)) (show¬_=g2 by omega);refine⟨hSof _ kS12,?_⟩;simp only[zuI]
    repeat
     apply zU (by rw[hY];rfl)
     ·intro w2 hS2;(try simp only[Keeps,zbT,Cells]at hS2);go_simp;with_reducible rfl
     simp only[zuI]
    refine zsX (by rw[hY];rfl) (by go_simp;first|with_reducible exact⟨rfl,rfl⟩|with_reducible rfl) ?_;simp only[zuI];have gE:=yZ g2 [.int .i64 (NN:Int)] (k*16+3) vS;have hsE:vS.setCells g2 (k*16+3) [.int .i64 (NN:Int)]=vS.setCell ⟨g2,k*16+3,none⟩ (.int .i64 (NN:Int)):=rfl;rw[hsE]at ownE gE;rw[PCs_open (by rw[hys.out,S14.openK_length,Hnp.out]) Hp.out Hy.out,←Hop.out]at ownE
    have hKE:KepX (fun b=>b=g2) w2 (vS.setCell ⟨g2,k*16+3,none⟩ (.int .i64 (NN:Int))):=
     ((KepX.below hbv2).trans (KepX.row gS (fun b e=>.inl (zK e).symm))).trans (KepX.row gE (fun b e=>.inl (zK e).symm))
    have hKF:KepX (fun b=>X b∨b=g2∨b=w0.heap.size+1) v2 (vS.setCell ⟨g2,k*16+3,none⟩ (.int .i64 (NN:Int))):=
     (KepX.row gS (fun b e=>.inl (.inr (.inl (zK e).symm)))).trans (KepX.row gE (fun b e=>.inl (.inr (.inl (zK e).symm))))
    obtain⟨vE,hvE⟩:∃W,vS.setCell ⟨g2,k*16+3,none⟩ (.int .i64 (NN:Int))=W:=⟨_,rfl⟩;rw[hvE]at ownE gE hKE hKF;rw[hvE];have k1E:=k12.kepX hKE (show¬_=g2 by omega);refine⟨hSof _ k1E,?_⟩;have k2E:=k22.kepX hKE (show¬_=g2 by omega);have KXE:=KX2.trans hKE
    have hE':PRobX (fun b=>X b∨b=g2∨b=w0.heap.size+1) {p with sb:=B,sd:=XX,slot:=(NN:Nat)} {y with a2:=aT,c2:=cT} vE:=fun W hW=>by
     have hp2:=rob2.out k p y Hp.out Hy.out W ((hKE.mono (fun b _ h=>.inr (.inl h))).trans hW)
     exact hp2.opened (hT.kepX (hKF.trans hW) (fun g o e=>by
      have h1:=hF8 g o e;exact fun h=>h.elim (fun h=>by have:=HXs.out g h;omega) (fun h=>by omega)))
    have ownE:=zB ownE
    have robE:=zB (show∀(j:Nat) (p':S14.P) (y':Lay),(S14.openK N (k+1))[j]? = some p'→(ys.set k {y with a2:=aT,c2:=cT})[j]? = some y'→PRobX (fun b=>X b∨b=g2∨b=w0.heap.size+1) p' y' vE from fun j p' y' h1 h2=>by
     rw[Hop.out,List.getElem?_set]at h1;rw[List.getElem?_set]at h2;by_cases hj:k=j
     ·rw[zO hj]at h1 h2;split at h1<;>split at h2
      ·cases h1;cases h2;exact hE'
      ·cases h2
      ·cases h1
      ·cases h1
     ·rw[zG hj]at h1 h2;exact(rob2.out j p' y' h1 h2).kep (hKE.mono (fun b _ h=>.inr (.inl h))))
    have hysE:=zB (show(ys.set k {y with a2:=aT,c2:=cT}).length=nc by rw[yT];exact hys.out);clear own3 ownS gS t3 gE hKE hKF hE' own2 rob2 TOv hT hF8 k12 k22 KX2 hbv20 hbv10 hbv2 hbv1 hbv0 kS12;refine yY (hF _ _ (fun K hK=> ?_));clear hF hY;go_wp2_with fail;refine OnlyK.mk (hK.out _ _ ?_);clear hK;go_wp2_with fail;go_roundw
    case rel=>exact⟨k+1,_,by omega,by simp,hysE,k1E,k2E,KXE,ownE,robE⟩
    case measure=>simp[intOf];omega
  ·obtain rfl:k=nc:=by omega
   go_wp2_with (first
    | (refine yA 40 (.tmp 1) (by rfl) (by rfl) w0.heap.size (by rfl) [.slice (some ⟨gC,oC,none⟩) k c1,.slice (some ⟨g2,0,none⟩) k c2,.slice a3 16 c3,.int .i64 (pt:Int)] 40 k1 _ Tryz.underlying40 rfl info_N ?_)
    | (refine zT 40 (.tmp 2) (.tmp 43) (by rfl) (by rfl) (w0.heap.size+1) (by rfl) [.slice (some ⟨gC,oC,none⟩) k c1,.slice (some ⟨g2,0,none⟩) k c2,.slice a3 16 c3,.int .i64 (pt:Int)] (by rfl) _ 40 k2 info_N rfl (by simp[Value.oneCell']) ?_;intro wL EL gL sL))
   have hL:=run_loadVar_mid wL _ 0 _ _ _ EL.cells Tryz.underlying40 rfl info_N;have KXL:=KepX.rowB hKX gL (fun b e=>.inr (by have:=zK e;omega));refine bodyPost_ret (v:=.agg #[.slice (some ⟨gC,oC,none⟩) k c1,.slice (some ⟨g2,0,none⟩) k c2,.slice a3 16 c3,.int .i64 (pt:Int)]) ?_ rfl ?_
   ·exact zbH (show Tryz.f27.results = #[.cell 2 40]from rfl) (p:=⟨w0.heap.size+1,0,none⟩) rfl hL
   ·refine⟨⟨some ⟨gC,oC,none⟩,c1,some ⟨g2,0,none⟩,c2,a3,c3,ys⟩,by rw[Hfin.out ys],fun W2 h2=> ?_,KXL.mono (fun b _ h=>by rw[h];rfl)⟩
    have h:=hIS.out k ys wL KXL hys.out (zdG hown.out (KepX.row (X:=fun b=>b=w0.heap.size+1) gL (fun b e=>.inl (zK e).symm)) (fun g e=>by have e:some g2=some g:=e;cases e;show¬g2=_;omega))
     (fun j p y h1 h3=>(hrob.out j p y h1 h3).kep (KepX.row gL (fun b e=>.inl (.inr (.inr (zK e).symm))))) W2 h2
    unfold S14.opened;rw[Hnc.out];exact h
