/- A part of the proof of L14l. No condition. -/
import Derived.Test.YthhgkafloejjiaaGreatZL14lbh
import Derived.Test.YthhgkafloejjiaaGreatZL14lbm
set_option linter.all false
set_option maxRecDepth 100000
set_option maxHeartbeats 20000000
namespace Go.Proofs.YthhgkafloejjiaaGreat
open Go.RowKit
def S14.open1(N:S14.N)(k:Nat)(p:S14.P):S14.P:=
 {p with sb:=S10.openB p.sb p.sd,sd:=S10.openX p.sb p.sd (S14.hash (N.ctxs.getD k 0) N.part.toNat),slot:=(S10.openN p.sb p.sd (S14.hash (N.ctxs.getD k 0) N.part.toNat):Nat)}
def S14.openP(N:S14.N)(k:Nat)(p:S14.P):S14.P:=if(N.comps[k]?).map (·.kind)=some 2 then S14.open1 N k p else p
def S14.openK(N:S14.N):Nat→List S14.P
 | 0=>N.parts
 | k+1=>match (S14.openK N k)[k]? with
   | some p=>(S14.openK N k).set k (S14.openP N k p)
   | none=>S14.openK N k
def S14.opened(N:S14.N):S14.N:=⟨N.comps,S14.openK N N.comps.length,N.ctxs,N.part⟩
theorem S14.openK_length(N:S14.N):∀k,(S14.openK N k).length=N.parts.length
 | 0=>rfl
 | k+1=>by
   rw[S14.openK];split
   ·rw[yH,S14.openK_length N k]
   ·exact S14.openK_length N k
theorem S14.openK_hist{N:S14.N}{k:Nat}{p:S14.P}{c:S14.C}(b:(S14.openK N k)[k]? = some p)(a:N.comps[k]? = some c)(h:c.kind=2):S14.openK N (k+1)=(S14.openK N k).set k (S14.open1 N k p):=by
 rw[S14.openK,b];show(S14.openK N k).set k (S14.openP N k p)=_;unfold S14.openP;rw[a,zQ (by rw[Option.map_some,h])]
theorem S14.openK_plain{N:S14.N}{k:Nat}{c:S14.C}(f:N.comps[k]? = some c)(h:c.kind≠2):S14.openK N (k+1)=S14.openK N k:=by
 rw[S14.openK];split
 ·rename_i p b
  unfold S14.openP;rw[f,zG (by rw[Option.map_some];exact fun e=>h (zI e))];obtain⟨d,a⟩:=List.getElem?_eq_some_iff.1 b;rw[←a];exact List.set_getElem_self d
 ·rfl
theorem zqE{α:Type}(xs:List α)(o n:Nat)(vs:List α)(c:vs.length=n)(h:o+n≤xs.length)(j:Nat):(zkS xs o vs)[j]? = if o≤j∧j<o+n then vs[j-o]? else xs[j]? :=by
 subst c;unfold zkS;by_cases b:j<o
 ·rw[zbH (by rw[yJ];omega),zbG,zQ b,zG om]
 ·rw[yK (by rw[yJ];omega),yJ,Nat.min_eq_left om];by_cases a:j<o+vs.length
  ·rw[zbH om,zQ ⟨by omega,a⟩]
  ·rw[yK om,zdI,zG om]
   congr 1;omega
theorem PCs_open{ps:List S14.P}{ys:List Lay}{k:Nat}{p:S14.P}{y:Lay}(e:ys.length=ps.length)(f:ps[k]? = some p)(o:ys[k]? = some y)(B:Int)(c:List Int)(d:Int)(a:Option Addr)(cap:Nat) :
 zkS (zkS (PCs ps ys) (k*16+1) [B,.slice a c.length cap]) (k*16+3) [d]=PCs (ps.set k {p with sb:=B,sd:=c,slot:=d}) (ys.set k {y with a2:=a,c2:=cap}):=by
 have m:k<ps.length:=(List.getElem?_eq_some_iff.1 f).1;have r:=zcM ps ys e;rw[zvA ps ys k _ _ e m];apply List.ext_getElem?;intro j;have b:(zkS (PCs ps ys) (k*16+1) [B,.slice a c.length cap]).length=(PCs ps ys).length:=ziG _ _ _ by7;rw[zqE _ _ 1 _ rfl (by rw[b];omega),zqE _ _ 2 _ rfl om,zqE _ _ 16 _ (zaU _ _) om];by_cases g:k*16≤j∧j<k*16+16
 ·rw[zQ g];obtain⟨i,rfl⟩:∃i,j=16*k+i:=⟨j-16*k,by omega⟩;have q:i<16:=by omega
  have l:=PCs_at ps ys f o q;rw[l,show 16*k+i-k*16=i by omega];by_cases h:i=3
  ·subst h;rw[zQ om,show 16*k+3-(k*16+3)=0 by omega];rfl
  ·rw[zG om];by_cases n:i=1
   ·subst n;rw[zQ om,show 16*k+1-(k*16+1)=0 by omega];rfl
   ·by_cases b:i=2
    ·subst b;rw[zQ om,show 16*k+2-(k*16+1)=1 by omega];rfl
    ·rw[zG om];obtain rfl|rfl|rfl|rfl|rfl|rfl|rfl|rfl|rfl|rfl|rfl|rfl|rfl:i=0∨i=4∨i=5∨i=6∨i=7∨i=8∨i=9∨i=10∨i=11∨i=12∨i=13∨i=14∨i=15:=by omega
     all_goals rfl
 ·rw[zG g,zG om,zG om]
theorem Tab.kepX{X:Nat→Prop}{w w':World}{xs:List Int}{a:Option Addr}{cap:Nat}(h:Tab xs a cap w)(b:KepX X w w')(c:∀g o,a=some ⟨g,o,none⟩→¬X g):Tab xs a cap w':=⟨h.ok,h.cap,h.rd.kepX b c⟩
theorem PIs.opened{p:S14.P}{y:Lay}{w:World}(h:PIs p y w){B:Int}{b:List Int}{d:Int}{a:Option Addr}{cap:Nat}(c:Tab b a cap w):PIs {p with sb:=B,sd:=b,slot:=d} {y with a2:=a,c2:=cap} w:=⟨h.rc,c,h.mch,h.mix,h.apm⟩
theorem zkN{P:Program}{Y:Array Value→Nat→Option Bool}{Q:Exit→Act→World→Prop}{S:World→Prop}{G:Act→World→Prop}{w:World}{f:Plan Oper}{o:Oper}{a:Act}(e:TypeId)(x y:Operand)(i:o.op = .store e x y)(j:Region.wanted o (Y a.tmps)=true)
 (b d:Nat) (c:Array Value) (n:a.eval x = .pointer (some ⟨b,d,none⟩)) (k:a.eval y = .agg c) (g:w.there b d c.size) (m:(P.info? e).map (·.size)=some c.size) (l:c.all (·.oneCell')=true)
 (h:S (w.setCells b d c.toList)∧zaI P Y Q S G f (a.put o.dst undef) (w.setCells b d c.toList)):zaI P Y Q S G (.one o f) a w:=by
 unfold zaI;rw[zQ j];exact .inl (wp_store_mid e x y i b d c n k g m l h)
theorem zkM{P:Program}{Y:Array Value→Nat→Option Bool}{Q:Exit→Act→World→Prop}{S:World→Prop}{G:Act→World→Prop}{w w':World}{b:Plan Oper}{o:Oper}{a:Act}(d:Region.wanted o (Y a.tmps)=true)(c:(execOp a.eval o).run P w = .ok .skip w')(h:S w'∧zaI P Y Q S G b (a.put o.dst undef) w'):zaI P Y Q S G (.one o b) a w:=by
 unfold zaI;rw[zQ d];exact .inl (by unfold Oper.wp;rw[c];exact h)
theorem isHist(v:Array Value)(w:World):(Instr.typeAssert (.iface 89 (.agg v)) 64 89 true).run Tryz.prog w = .ok (.tuple #[.agg v,.bool true]) w:=by kernel_rfl
theorem zlC:(Tryz.prog.info? 40).map (·.size)=some 2:=by kernel_rfl
theorem opened_is{N:S14.N}{X:Nat→Prop}{f wr:World}{d m:Option Addr}{b s l r u n:Nat}{ps:List S14.P}{ys B:List Lay}(c:NIs N ⟨d,s,some ⟨b,0,none⟩,l,m,r,B⟩ f)(w:¬X b)
 (A:∀a,KepX (fun k=>X k∨k=b) f a→Rd a d (zfG N.comps)∧Rd a m (zlZ N.ctxs)) (t:ps.length=N.parts.length) (z:N.parts.length=n) (C:KepX (fun k=>k=b) f wr) (F:ys.length=n)
 (E:wr.ownsRow u 50 16 (.slice (some ⟨b,0,none⟩) n l) n (PCs ps ys)) (x:∀(j:Nat) (p:S14.P) (y:Lay),ps[j]? = some p→ys[j]? = some y→PRobX (fun k=>X k∨k=b) p y wr) :
 ∀a,KepX X wr a→NIs ⟨N.comps,ps,N.ctxs,N.part⟩ ⟨d,s,some ⟨b,0,none⟩,l,m,r,ys⟩ a:=fun a i=>
 have q:=A a ((C.mono (fun _ _ h=>.inr h)).trans (i.mono (fun _ _ h=>.inl h)))
 {rc:=q.1
  rp:=(Rd.of_owns E).kepX i (fun g o e=>by cases e;exact w)
  rx:=q.2
  ly:=by rw[t,z];exact F
  ps:=fun j p y D v=>x j p y D v a (i.mono (fun _ _ h=>.inl h))
  xs:=c.xs
  l1:=c.l1
  l2:=by rw[t];exact c.l2
  l3:=c.l3}
theorem zuI(w:World)(N:S14.N)(bu:1≤N.comps.length)(hl:N.comps.length≤16)(a8:∀c∈N.comps,0≤c.kind∧c.kind≤6)(aM:N.parts.length=N.comps.length)(ar:N.ctxs.length=16)(bw:1≤N.part)(aJ:N.part≤255):ziX w N (S14.opened N):=by
 intro L f X hW hX aV aE bb bj hR;obtain⟨a1,F,a2,c2,z,A,ag⟩:=L;obtain⟨a,bg,bO,bP,bG,bF⟩:=zcH aE om;simp only at bg;subst bg;have aH:¬X a:=bj a rfl;clear bj;have aP:∀(j:Nat) (p:S14.P) (y:Lay),N.parts[j]? = some p→ag[j]? = some y→PRobX (fun k=>X k∨k=a) p y f:=fun j p y l m=>(bb j p y l m).change (fun k _ hk=>hk.elim .inl (fun e=>.inr (by rw[e];rfl)));have ax:∀W2,KepX (fun k=>X k∨k=a) f W2→Rd W2 a1 (zfG N.comps)∧Rd W2 z (zlZ N.ctxs):=fun W2 h=>hR W2 (h.mono (fun k _ hk=>hk.elim .inl (fun e=>.inr (by rw[e];rfl))));have h0:=aV f (KepX.refl _ _);obtain⟨C,D,aY,_⟩:=h0.rc (fun e=>by have h:=yG List.length e;rw[zaB,List.length_nil]at h;omega);simp only at aY;subst aY;obtain⟨v,ao⟩:∃n:Nat,N.part=(n:Int):=⟨N.part.toNat,by omega⟩;have bt:v<4294967296:=by omega
 obtain⟨d,ak⟩:=zvJ N.comps.length;have ab:N.parts.length=d:=aM.trans ak
 have be:=zC fun(k:Nat) (r:List Lay) (wr:World) (l:KepX (fun k=>k=a) f wr) (m:r.length=d) (h3:wr.ownsRow w.heap.size 50 16 (.slice (some ⟨a,0,none⟩) d c2) d (PCs (S14.openK N k) r)) (h4:∀(j:Nat) (p:S14.P) (y:Lay),(S14.openK N k)[j]? = some p→r[j]? = some y→PRobX (fun b=>X b∨b=a∨b=f.heap.size+1) p y wr)=>
  opened_is (ps:=S14.openK N k) h0 aH ax (S14.openK_length N k) ab l m h3 (fun j p y e1 e2=>(h4 j p y e1 e2).change (fun b _ h=>h.elim .inl (fun h=>.inr (.inl h))))
 have aO:f.ownsRow w.heap.size 50 16 (.slice (some ⟨a,0,none⟩) d c2) d (PCs N.parts ag):=ab▸aE;have aN:ag.length=d:=h0.ly.trans ab;have eV:NV N ⟨some ⟨C,D,none⟩,F,some ⟨a,0,none⟩,c2,z,A,ag⟩ = .agg #[.slice (some ⟨C,D,none⟩) d F,.slice (some ⟨a,0,none⟩) d c2,.slice z 16 A,v]:=by
  unfold NV zaN;rw[ak,ab,ar,ao]
 rw[eV]
 have bB:=zC fun(r:List Lay)=>(show NV (S14.opened N) ⟨some ⟨C,D,none⟩,F,some ⟨a,0,none⟩,c2,z,A,r⟩ = .agg #[.slice (some ⟨C,D,none⟩) d F,.slice (some ⟨a,0,none⟩) d c2,.slice z 16 A,v] by
  unfold NV zaN S14.opened;simp only[ak,S14.openK_length,ab,ar,ao])
 have HO:=zC fun(x:S14.C) W=>(show Calls Tryz.prog 17 #[.agg #[x.kind,x.bits,x.limit,x.rate,x.first,x.second]] W _ from zhG x W);obtain⟨bo,az,aA,bd⟩:=zh4 a8 ak ab ar;obtain⟨aC,bv,bL⟩:=zh3 ao hX aH;have bQ:d≤16:=by omega
 obtain⟨W1,ah⟩:=zvJ ((f.alloc (.cells #[.slice (some ⟨C,D,none⟩) d F,.slice (some ⟨a,0,none⟩) d c2,.slice z 16 A,v] 26)).alloc (.cells zN 26));have I:Blk W1 f [.slice (some ⟨C,D,none⟩) d F,.slice (some ⟨a,0,none⟩) d c2,.slice z 16 A,v] 26:=by rw[←ah];exact(Blk.new f _ _).alloc _
 have k2:Blk W1 (f.heap.size+1) [.slice none 0 0,.slice none 0 0,.slice none 0 0,.int .i64 0] 26:=by
  rw[←ah];have h:=Blk.new (f.alloc (.cells #[.slice (some ⟨C,D,none⟩) d F,.slice (some ⟨a,0,none⟩) d c2,.slice z 16 A,v] 26)) [.slice none 0 0,.slice none 0 0,.slice none 0 0,.int .i64 0] 26;rwa[zY]at h
 have B1:Below f f W1:=by rw[←ah];exact((zJ _ _).alloc (zF _) _).alloc by1 _
 have aS:KepX (fun k=>k=a) f W1:=KepX.below B1;obtain⟨bl,bi,bk⟩:=zh3 (yM (B:=0) aO B1) (show∀(j:Nat) (p:S14.P) (y:Lay),N.parts[j]? = some p→ag[j]? = some y→PRobX (fun b=>X b∨b=a∨b=f.heap.size+1) p y W1 from fun j p y l m=>((aP j p y l m).change (X':=fun b=>X b∨b=a∨b=f.heap.size+1) (fun b hb h=>h.elim .inl (fun h=>h.elim .inr (fun h=>by omega)))).kep (KepX.below B1)) aN;unfold zN at ah;have c0:=I.cell 0;simp only[lgz]at c0;clear aV aE bb hR aO aP ax h0 ak ab ar ao aM hl bu a8 eV hX aH aN bw aJ B1;go_enter Tryz.func18,Tryz.ntmps18;go_wp2_with (rw[ah]);clear c0
 go_loopw [9] (fun i wr=>∃(k:Nat) (r:List Lay),k≤d∧i = .int .i64 (k:Int)∧Hid (r.length=d)∧Blk wr f [.slice (some ⟨C,D,none⟩) d F,.slice (some ⟨a,0,none⟩) d c2,.slice z 16 A,v] 26∧
  Blk wr (f.heap.size+1) [.slice none 0 0,.slice none 0 0,.slice none 0 0,.int .i64 0] 26∧KepX (fun b=>b=a) f wr∧
  Hid (wr.ownsRow w.heap.size 50 16 (.slice (some ⟨a,0,none⟩) d c2) d (PCs (S14.openK N k) r))∧
  Hid (∀(j:Nat) (p:S14.P) (y:Lay),(S14.openK N k)[j]? = some p→r[j]? = some y→PRobX (fun b=>X b∨b=a∨b=f.heap.size+1) p y wr)) (fun i _=>d-(intOf i).toNat)
 case atStart=>exact⟨0,ag,by omega,rfl,bk,I,k2,aS,bl,bi⟩
 case round=>
  clear I k2 aS ah bl bi bk;obtain⟨k,r,hk,rfl,P,I,k2,aq,J,O⟩:=hrel;have bK:=aq.size;by_cases bn:k<d
  ·have bN:(k:Int)<(d:Int):=by omega
   obtain⟨x,hx⟩:∃x,N.comps[k]? = some x:=⟨_,zD (by have:=az.out;omega)⟩;have aF:=be.out k r wr aq P.out J.out O.out wr (KepX.refl _ _);obtain⟨g',o',aG,x0,x1,x2,x3,x4,x5⟩:=aF.comp_at hx;cases aG;have ad:=bo.out x (yF hx);have a7:Below wr wr (wr.alloc (.cells #[x.kind,x.bits,x.limit,x.rate,x.first,x.second] 56)):=(zJ _ _).alloc (zF _) _;obtain⟨a9,Hx⟩:=zh2 aF hx;clear aF;go_wp2_with fail;refine mnb a7 (HO.out x _) fun H bC s=> ?_;have u:=I.step s;have S:=k2.step s;have T:=aq.trans (KepX.below s);clear x0 x1 x2 x3 x4 x5 hx I k2 a7 bC;by_cases k0:x.kind=0
   ·have t:OfV x = .iface 87 (.agg #[x.kind,x.bits,x.limit,x.rate,x.first,x.second]):=by
     unfold OfV CV zV;simp only[k0];rfl
    rw[t];have ae:=zhP (.agg #[x.kind,x.bits,x.limit,x.rate,x.first,x.second]);obtain⟨q,G⟩:=zh2 (S14.openK_plain Hx.out (by rw[k0];decide)) (yM (B:=0) J.out s);have E:=zC fun j p y l m=>(O.out j p y l m).kep (KepX.below s);clear k0 t ad;go_wp2;go_roundw
    case rel=>exact⟨k+1,r,by omega,by simp,P,u,S,T,q.out.symm▸G,q.out.symm▸E⟩
    case measure=>simp[intOf];omega
   by_cases I:x.kind=1
   ·have t:OfV x = .iface 88 (.agg #[x.kind,x.bits,x.limit,x.rate,x.first,x.second]):=by
     unfold OfV CV zV;simp only[I];rfl
    rw[t];have ae:=zjO (.agg #[x.kind,x.bits,x.limit,x.rate,x.first,x.second]);obtain⟨q,G⟩:=zh2 (S14.openK_plain Hx.out (by rw[I];decide)) (yM (B:=0) J.out s);have E:=zC fun j p y l m=>(O.out j p y l m).kep (KepX.below s);clear I t ad;go_wp2;go_roundw
    case rel=>exact⟨k+1,r,by omega,by simp,P,u,S,T,q.out.symm▸G,q.out.symm▸E⟩
    case measure=>simp[intOf];omega
   by_cases k3:x.kind=3
   ·have t:OfV x = .iface 90 (.agg #[x.kind,x.bits,x.limit,x.rate,x.first,x.second]):=by
     unfold OfV CV zV;simp only[k3];rfl
    rw[t];have ae:=ziI (.agg #[x.kind,x.bits,x.limit,x.rate,x.first,x.second]);obtain⟨q,G⟩:=zh2 (S14.openK_plain Hx.out (by rw[k3];decide)) (yM (B:=0) J.out s);have E:=zC fun j p y l m=>(O.out j p y l m).kep (KepX.below s);clear k3 t ad;go_wp2;go_roundw
    case rel=>exact⟨k+1,r,by omega,by simp,P,u,S,T,q.out.symm▸G,q.out.symm▸E⟩
    case measure=>simp[intOf];omega
   by_cases k4:x.kind=4
   ·have t:OfV x = .iface 91 (.agg #[x.kind,x.bits,x.limit,x.rate,x.first,x.second]):=by
     unfold OfV CV zV;simp only[k4];rfl
    rw[t];have ae:=ziJ (.agg #[x.kind,x.bits,x.limit,x.rate,x.first,x.second]);obtain⟨q,G⟩:=zh2 (S14.openK_plain Hx.out (by rw[k4];decide)) (yM (B:=0) J.out s);have E:=zC fun j p y l m=>(O.out j p y l m).kep (KepX.below s);clear k4 t ad;go_wp2;go_roundw
    case rel=>exact⟨k+1,r,by omega,by simp,P,u,S,T,q.out.symm▸G,q.out.symm▸E⟩
    case measure=>simp[intOf];omega
   by_cases k5:x.kind=5
   ·have t:OfV x = .iface 92 (.agg #[x.kind,x.bits,x.limit,x.rate,x.first,x.second]):=by
     unfold OfV CV zV;simp only[k5];rfl
    rw[t];have ae:=zkV (.agg #[x.kind,x.bits,x.limit,x.rate,x.first,x.second]);obtain⟨q,G⟩:=zh2 (S14.openK_plain Hx.out (by rw[k5];decide)) (yM (B:=0) J.out s);have E:=zC fun j p y l m=>(O.out j p y l m).kep (KepX.below s);clear k5 t ad;go_wp2;go_roundw
    case rel=>exact⟨k+1,r,by omega,by simp,P,u,S,T,q.out.symm▸G,q.out.symm▸E⟩
    case measure=>simp[intOf];omega
   by_cases k6:x.kind=6
   ·have t:OfV x = .iface 93 (.agg #[x.kind,x.bits,x.limit,x.rate,x.first,x.second]):=by
     unfold OfV CV zV;simp only[k6];rfl
    rw[t];have ae:=ziH (.agg #[x.kind,x.bits,x.limit,x.rate,x.first,x.second]);obtain⟨q,G⟩:=zh2 (S14.openK_plain Hx.out (by rw[k6];decide)) (yM (B:=0) J.out s);have E:=zC fun j p y l m=>(O.out j p y l m).kep (KepX.below s);clear k6 t ad;go_wp2;go_roundw
    case rel=>exact⟨k+1,r,by omega,by simp,P,u,S,T,q.out.symm▸G,q.out.symm▸E⟩
    case measure=>simp[intOf];omega
   have av:x.kind=2:=by omega
   have t:OfV x = .iface 89 (.agg #[x.kind,x.bits,x.limit,x.rate,x.first,x.second]):=by
    unfold OfV CV zV;simp only[av];rfl
   rw[t];have ae:=isHist #[x.kind,x.bits,x.limit,x.rate,x.first,x.second];have aK:=a9.out.step s;obtain⟨g',o',p,y,aG,hp,hy,ap,hP⟩:=aK.part_at (k:=k) (by show k<(S14.openK N k).length;rw[S14.openK_length,aA.out];exact bn);cases aG;have hp:(S14.openK N k)[k]? = some p:=hp;have hy:r[k]? = some y:=hy;have q:=S14.openK_hist hp Hx.out av;unfold S14.open1 at q;have bf:N.part.toNat=v:=by rw[aC.out];rfl
   rw[bf]at q;have an:=S14.hash_lt (N.ctxs.getD k 0) v
   have al:∀W,Below H H W→Calls Tryz.prog 36 #[VV ⟨N.comps,S14.openK N k,N.ctxs,N.part⟩ ⟨some ⟨C,D,none⟩,F,some ⟨a,0,none⟩,c2,z,A,r⟩ k (.slice none 0 0)] W fun e w'=>e = .returned (.int .u32 (S14.hash (N.ctxs.getD k 0) v:Int))∧Below W W w':=fun W hW=>
    zpL _ _ k _ W (aK.step hW) (by show k<N.ctxs.length;rw[bd.out];omega) v aC.out bt
   unfold VV at al;simp only[S14.openK_length,az.out,aA.out,bd.out,aC.out]at al;obtain⟨hv,aR⟩:=zvJ (S14.hash (N.ctxs.getD k 0) v);rw[aR]at al q an;have aj:=fun(W:World) (hW:Below H H W)=>open10_any p.sb p.sd hv an y.a2 y.c2 W (hP.tab.step hW);have a4:=zC (OK8.openX hP.tab.ok p.sb hv an);obtain⟨B,XX,Z,EE,hB,am,aB,bh⟩:=zz4 (S10.openB p.sb p.sd) (S10.openX p.sb p.sd hv) (S10.openN p.sb p.sd hv) (S10.check p.sb p.sd);rw[hB,am,aB]at q;simp only[hB,am,aB,bh]at aj;rw[am]at a4;unfold zcK at aj;have q1:=ap 1 _ rfl;have q2:=ap 2 _ rfl;have q3:=ap 3 _ rfl;simp only[yE]at q1 q2 q3;obtain⟨sb,sl,aw,aD⟩:=zz2 p.sb p.sd.length;rw[aw]at q1;rw[aD]at q2;simp only[aw,aD]at aj;have G:=zC (yM (B:=0) J.out s);have E:=zC fun j p y l m=>(O.out j p y l m).kep (KepX.below s);obtain⟨aL,bs,aU,Hp⟩:=zh4 al aj q hp;have Hy:=zC hy;have bJ:=s.size;have n0:H.cell? ⟨f,0,none⟩=some (.slice (some ⟨C,D,none⟩) d F):=u.cell 0;have n1:H.cell? ⟨f,1,none⟩=some (.slice (some ⟨a,0,none⟩) d c2):=u.cell 1;have n2:H.cell? ⟨f,2,none⟩=some (.slice z 16 A):=u.cell 2;have n3:H.cell? ⟨f,3,none⟩=some (.int .i64 (v:Int)):=u.cell 3;clear k0 I k3 k4 k5 k6 av t ad aK ap hP q hp hy hB am aB bh aw aD al aj aR an bf J O a9 s;have aa:∀W,Blk W f [.slice (some ⟨C,D,none⟩) d F,.slice (some ⟨a,0,none⟩) d c2,.slice z 16 A,v] 26→zdM [(⟨f,0,none⟩,.slice (some ⟨C,D,none⟩) d F),(⟨f,1,none⟩,.slice (some ⟨a,0,none⟩) d c2),(⟨f,2,none⟩,.slice z 16 A),(⟨f,3,none⟩,v)] W:=fun W h=>⟨h.cell 0,h.cell 1,h.cell 2,h.cell 3,zT⟩;go_wp2_with fail;refine zaO 21 0 (.read 0 (.read 1 (.read 2 (.read 3 (.read 4 (.read 6 (.read 7 (.read 8 (.two (.one 5 (.one 9 (.one 10 (.read 11 (.read 12 (.read 13 (.read 14 (.read 15 (.read 16 (.one 17 (.read 18 (.read 19 (.one 20 .done))))))))))))) (.one 9 (.one 5 (.one 10 (.read 11 (.read 12 (.read 13 (.read 14 (.read 15 (.read 16 (.one 17 (.read 18 (.read 19 (.one 20 .done)))))))))))))))))))))) _ _ o0P (zdM [(⟨f,0,none⟩,.slice (some ⟨C,D,none⟩) d F),(⟨f,1,none⟩,.slice (some ⟨a,0,none⟩) d c2),(⟨f,2,none⟩,.slice z 16 A),(⟨f,3,none⟩,v)]) zk (zU 21 _).symm zk zk zk zk (aa _ (u.step (zJ _ _).drew)) (fun Y Q4 F4 hY hF=> ?_);simp only[Plan.map,ltc,ltz,ldc,ldz,zdG,zeF];repeat refine mpH ?_
   have Q:Below H H H.drew:=(zJ _ _).drew;obtain⟨v0,bp⟩:=zvJ H.drew;rw[bp]at Q⊢;have bM:=(Q.cell (zE q1)).trans q1;have bH:=(Q.cell (zE q2)).trans q2;refine zbV ?_ ?_;refine mpV (aa _ (u.step Q)) ?_;refine mpC ?_;refine mnb Q (aL.out _ Q) fun v1 a0 M=> ?_;refine⟨_,rfl,aa _ (u.step M),?_⟩;simp only[zvF]
   rotate_left
   refine mpC ?_;refine mnb Q (aL.out _ Q) fun v1 a0 M=> ?_;refine⟨_,rfl,aa _ (u.step M),?_⟩;simp only[zvF];have bD:=(M.cell (zE q1)).trans q1;have bz:=(M.cell (zE q2)).trans q2;refine mpV (aa _ (u.step M)) ?_;clear bD bz
   all_goals
    skip
    refine mpC ?_;refine(bs.out _ M).mono ?_;rintro e v2 ⟨V,rfl,aZ,bc⟩;have af:=zA M bc;obtain⟨U,cT,rfl,hT,aW⟩:=aZ.open a4.out;have bI:=M.size;have ax:=S.lt;unfold zcK;refine⟨_,rfl,aa _ (u.step af),?_⟩;simp only[zvF];repeat refine mpH ?_
    have ay:=yM (B:=0) G.out af;refine zkN 40 (.tmp 39) (.tmp 35) by3 (by rw[hY];rfl) a (k*16+1) #[B,.slice U XX.length cT] by3 by3 (zdL ay (by show k*16+1+2≤d*16;omega)) zlC by4 ?_;obtain⟨R,au⟩:=zvJ (v2.setCells a (k*16+1) (#[B,.slice U XX.length cT]:Array Value).toList);rw[au];have zrY:=zgT ay (o:=k*16+1) (vs:=[.int .i64 B,.slice U XX.length cT]) (by show k*16+1+2≤d*16;omega);have gS:=yL a [B,.slice U XX.length cT] (k*16+1) v2;have s3:R.cell? ⟨a,k*16+3,none⟩=some (.int .i64 p.slot):=by
     rw[←au];exact(World.cell?_setCells_out a _ _ v2 _ (fun _ _=>.inr (by show k*16+1+2≤k*16+3;omega))).trans (af.cell (zE q3) |>.trans q3)
    have bm:v2.setCells a (k*16+1) [B,.slice U XX.length cT]=R:=au;rw[bm]at zrY gS;have t3:=zdL zrY (o:=k*16+3) (k:=1) om;have f3:R.frozen? ⟨a,k*16+3,none⟩=false:=(t3 0 om).2;have ai:=zgT zrY (o:=k*16+3) (vs:=[.int .i64 (Z:Int)]) (by show k*16+3+1≤d*16;omega);have a6:=(u.step af).kepX (KepX.row (X:=fun b=>b=a) gS (fun b e=>.inl (zI e).symm)) (show¬_=a by omega);refine⟨aa _ a6,?_⟩;simp only[zvF];repeat refine mpH ?_
    refine zkM (by rw[hY];rfl) (by go_simp;first|with_reducible exact⟨rfl,rfl⟩|with_reducible rfl) ?_;simp only[zvF];have gE:=yL a [Z] (k*16+3) R;have bE:R.setCells a (k*16+3) [Z]=R.setCell ⟨a,k*16+3,none⟩ (.int .i64 (Z:Int)):=rfl;rw[bE]at ai gE;rw[PCs_open (by rw[P.out,S14.openK_length,aA.out]) Hp.out Hy.out,←aU.out]at ai
    have ac:KepX (fun b=>b=a) H (R.setCell ⟨a,k*16+3,none⟩ (.int .i64 (Z:Int))):=
     ((KepX.below af).trans (KepX.row gS (fun b e=>.inl (zI e).symm))).trans (KepX.row gE (fun b e=>.inl (zI e).symm))
    have aI:KepX (fun b=>X b∨b=a∨b=f.heap.size+1) v2 (R.setCell ⟨a,k*16+3,none⟩ (.int .i64 (Z:Int))):=
     (KepX.row gS (fun b e=>.inl (.inr (.inl (zI e).symm)))).trans (KepX.row gE (fun b e=>.inl (.inr (.inl (zI e).symm))))
    obtain⟨vE,ba⟩:=zvJ (R.setCell ⟨a,k*16+3,none⟩ (.int .i64 (Z:Int)));rw[ba]at ai gE ac aI;rw[ba];have aX:=u.kepX ac (show¬_=a by omega);refine⟨aa _ aX,?_⟩;have bx:=S.kepX ac (show¬_=a by omega);have br:=T.trans ac
    have a5:PRobX (fun b=>X b∨b=a∨b=f.heap.size+1) {p with sb:=B,sd:=XX,slot:=(Z:Nat)} {y with a2:=U,c2:=cT} vE:=fun W hW=>by
     have aJ:=E.out k p y Hp.out Hy.out W ((ac.mono (fun b _ h=>.inr (.inl h))).trans hW)
     exact aJ.opened (hT.kepX (aI.trans hW) (fun g o e=>by
      have l:=aW g o e;exact fun h=>h.elim (fun h=>by have:=bv.out g h;omega) (fun h=>by omega)))
    have ai:=zC ai
    have bq:=zC (show∀(j:Nat) (p':S14.P) (y':Lay),(S14.openK N (k+1))[j]? = some p'→(r.set k {y with a2:=U,c2:=cT})[j]? = some y'→PRobX (fun b=>X b∨b=a∨b=f.heap.size+1) p' y' vE from fun j p' y' l m=>by
     rw[aU.out,List.getElem?_set]at l;rw[List.getElem?_set]at m;by_cases hj:k=j
     ·rw[zQ hj]at l m;split at l<;>split at m
      ·cases l;cases m;exact a5
      ·cases m
      ·cases l
      ·cases l
     ·rw[zG hj]at l m;exact(E.out j p' y' l m).kep (ac.mono (fun b _ h=>.inr (.inl h))))
    have bA:=zC (show(r.set k {y with a2:=U,c2:=cT}).length=d by rw[yH];exact P.out);clear ay zrY gS t3 gE ac aI a5 G E aZ hT aW u S T bc a0 af M Q a6;refine zaT (hF _ _ (fun K hK=> ?_));clear hF hY;go_wp2_with fail;refine mok hK ?_;clear hK;go_wp2_with fail;go_roundw
    case rel=>exact⟨k+1,_,by omega,by simp,bA,aX,bx,br,ai,bq⟩
    case measure=>simp[intOf];omega
  ·obtain rfl:k=d:=by omega
   go_wp2_with (first
    | (refine ld26 (.tmp 1) I ?_)
    | (refine st26 (.tmp 2) (.tmp 43) [.slice (some ⟨C,D,none⟩) k F,.slice (some ⟨a,0,none⟩) k c2,.slice z 16 A,v] k2 ?_;intro wL EL gL sL))
   have hL:=lv26 EL;have aQ:=KepX.rowB aq gL (fun b e=>.inr (by have:=zI e;omega));refine rL1 hL ?_;refine⟨⟨some ⟨C,D,none⟩,F,some ⟨a,0,none⟩,c2,z,A,r⟩,by rw[bB.out r],fun W2 m=> ?_,aQ.mono (fun b _ h=>by rw[h];rfl)⟩
   have h:=be.out k r wL aQ P.out (zbY J.out (KepX.row (X:=fun b=>b=f.heap.size+1) gL (fun b e=>.inl (zI e).symm)) (fun g e=>by have e:some a=some g:=e;cases e;show¬a=_;omega))
    (fun j p y l h3=>(O.out j p y l h3).kep (KepX.row gL (fun b e=>.inl (.inr (.inr (zI e).symm))))) W2 m
   unfold S14.opened;rw[az.out];exact h
theorem znV(N:S14.N)(L:NLay)(k:Nat)(w:World)(E:NIs N L w)(p:S14.P)(y:Lay)(h:N.parts[k]? = some p)(z:L.ys[k]? = some y)(pt:Nat)(x:N.part=(pt:Int))(ab:pt≤255) :
 Calls Tryz.prog 42 #[NV N L,k] w fun e w'=>e = .returned (.int .i64 (S10.getN p.sb p.sd p.slot (S14.node pt:Nat)))∧Below w w w':=by
 have S:=(List.getElem?_eq_some_iff.1 h).1;obtain⟨a,o,p',y',X,t,P,d,v⟩:=E.part_at S;rw[h]at t;rw[z]at P;cases t;cases P;have A:=zC fun W=>zpT pt ab W;have b:=zC fun(W:World) (hW:Below w w W)=>(show Calls Tryz.prog 83 #[.agg #[p.sb,.slice y.a2 p.sd.length y.c2],p.slot,((S14.node pt:Nat):Int)] W _ from rget10_any p.sb p.sd p.slot (S14.node pt:Nat) y.a2 y.c2 W (v.tab.step hW));have q:w.cell? ⟨a,o+k*16+1,none⟩=some (.int .i64 p.sb):=d 1 _ rfl;have n:w.cell? ⟨a,o+k*16+2,none⟩=some (.slice y.a2 p.sd.length y.c2):=d 2 _ rfl;have l:w.cell? ⟨a,o+k*16+3,none⟩=some (.int .i64 p.slot):=d 3 _ rfl;unfold NV zaN;rw[X,x];have T:(k:Int)<(N.parts.length:Int):=by omega
 obtain⟨nc,m,Z,R,B,g,C,H⟩:=zz4 N.comps.length N.parts.length N.ctxs.length (S10.getN p.sb p.sd p.slot (S14.node pt:Nat));obtain⟨m2,r,i,nd,G,F,s,O⟩:=zz4 p.sd.length p.sb p.slot (S14.node pt);rw[H]at b⊢;rw[G]at b n;rw[F]at b q;rw[s]at b l;rw[O]at b A;rw[g]at T;rw[B,g,C];obtain⟨E9,I⟩:=zvJ (S10.node r p.sd i (nd:Int));rw[I]at b;clear B g C H G F s O E d v h z x I S;obtain⟨u,aa,Q,c⟩:=al1 w [.slice L.a1 nc L.c1,.slice (some ⟨a,o,none⟩) m L.c2,.slice L.a3 Z L.c3,pt] 26;have r1:=(c.cell (zE q)).trans q;have r2:=(c.cell (zE n)).trans n;have r3:=(c.cell (zE l)).trans l;go_enter Tryz.func42,Tryz.ntmps42;go_wp2_with (rw[aa]);have M:Cells u [(⟨w,1,none⟩,.slice (some ⟨a,o,none⟩) m L.c2),(⟨w,3,none⟩,pt),(⟨a,o+k*16+1,none⟩,r),(⟨a,o+k*16+2,none⟩,.slice y.a2 m2 y.c2),(⟨a,o+k*16+3,none⟩,i)]:=⟨Q.cell 1,Q.cell 3,r1,r2,r3,zT⟩;refine zvL 20 1 [(U,0,14),(zvE,14,1),(zvE,15,1),(U,16,3),(zvE,19,1)] (Keeps u [(⟨w,1,none⟩,.slice (some ⟨a,o,none⟩) m L.c2),(⟨w,3,none⟩,pt),(⟨a,o+k*16+1,none⟩,r),(⟨a,o+k*16+2,none⟩,.slice y.a2 m2 y.c2),(⟨a,o+k*16+3,none⟩,i)]) (Keeps.start M) fun Y Q4 F4 hY J=> ?_;repeat refine mrd ?_
 refine mcl ?_;refine mck (Keeps.start M) (A.out _) fun w2 ac f=> ?_;refine mcl ?_;refine mck f (b.out _ (zA c f.1)) fun w3 ad j=> ?_;repeat refine mrd ?_
 refine mvl (j) ?_;refine mdn J fun K D=> ?_;clear J hY;have V:=zA c j.1;go_wp2_with fail;refine mok D ?_;clear D f j;exact mf1 V
