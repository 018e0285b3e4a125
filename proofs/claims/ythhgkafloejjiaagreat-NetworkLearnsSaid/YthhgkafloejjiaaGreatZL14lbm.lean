/- A part of the proof of L14l. No condition. -/
import Derived.Lib.SliceRun
import Derived.Test.YthhgkafloejjiaaGreatZL14lbj
set_option linter.all false
set_option maxRecDepth 100000
set_option maxHeartbeats 2000000
namespace Go.Proofs.YthhgkafloejjiaaGreat
open Go.RowKit
def S10.openN(bits:Int)(xs:List Int)(hash:Nat):Nat:=if S10.check bits xs=0 then((S10.find bits.toNat xs hash).getD ((S10.least xs (S10.places bits.toNat hash)).getD 0))else 0
def S10.setMany:List Int→Nat→List Int→List Int
 | xs,_,[]=>xs
 | xs,i,y::ys=>S10.setMany (xs.set i y) (i+1) ys
def S10.fresh(xs:List Int)(n mk:Nat):List Int:=(S10.setMany xs (16*n) (List.replicate 16 0)).set (16*n) (mk:Int)
def S10.openX(bits:Int)(xs:List Int)(hash:Nat):List Int:=if S10.check bits xs=0 then(if(S10.find bits.toNat xs hash).isSome then xs else S10.fresh xs (S10.openN bits xs hash) (S10.mark hash))else []
def S10.openB(bits:Int)(xs:List Int):Int:=if S10.check bits xs=0 then bits else 0
theorem open10_bad(b:Int)(xs:List Int)(hash:Nat)(a:Option Addr)(cap:Nat)(w:World)(r:Tab xs a cap w)(d:¬S10.check b xs=0) :
 Calls Tryz.prog 35 #[zcK b xs a cap,.int .u32 (hash:Int)] w fun e o=>e = .returned (.tuple #[.agg #[.int .i64 0,.slice none 0 0],.int .i64 0,(S10.check b xs)])∧Below w w o:=by
 have m:=zC fun W (h:Tab xs a cap W)=>zfV b xs h.ok a cap h.cap W h.rd;unfold zcK;have s:(S10.check b xs != 0)=true:=by simpa using d
 generalize S10.check b xs=C at *;clear d;go_enter Tryz.func35,Tryz.ntmps35;go_wp2_with fail;refine mnx w (m.out _ (r.step zo)) fun q j l u=> ?_;have c:Blk q (w.heap.size+1) [.int .i64 0,.slice none 0 0] 40:=by
  have h:=(Blk.new (w.alloc (.cells #[b,.slice a xs.length cap] 40)) [.int .i64 0,.slice none 0 0] 40).step j;rwa[zY]at h
 have n:=c.cell 0;have k:=c.cell 1;have t:=c.free 0;have x:=c.free 1;have g:=(c.set 0 (.int .i64 0)).set 1 (.slice none 0 0);have i:=g.cell 0;have f:=g.cell 1;simp only[sC0,sCs,lgz,lgs]at i f n k;clear c g;go_wp2;exact bodyPost_ret (v:=.tuple #[.agg #[.int .i64 0,.slice none 0 0],.int .i64 0,C]) (by simp[results,Tryz.results35,go_sem,i,f]) rfl ⟨rfl,(l.setCell (p:=⟨w.heap.size+1,0,none⟩) by1 _).setCell (p:=⟨w.heap.size+1,1,none⟩) by1 _⟩
theorem open10_found(n:Nat)(xs:List Int)(hash i:Nat)(N:n≤16)(k:xs.length=16*2^n)(T:hash<4294967296)(K:S10.check (n:Int) xs=0)(Q:S10.find n xs hash=some i)(b a cap:Nat)(w:World)(x:Tab xs (some ⟨b,a,none⟩) cap w)(X:w.rangeAt b a (Bts xs)) :
 Calls Tryz.prog 35 #[zcK (n:Int) xs (some ⟨b,a,none⟩) cap,.int .u32 (hash:Int)] w fun e G=>∃b I,e = .returned (.tuple #[zcK (n:Int) xs (some ⟨b,0,none⟩) I,i,.int .i64 0])∧OB G w.heap.size b I xs∧Below w w G:=by
 have D:=zC fun W (h:Tab xs (some ⟨b,a,none⟩) cap W)=>zfV (n:Int) xs h.ok (some ⟨b,a,none⟩) cap h.cap W h.rd;rw[K]at D;have Z:=zaX N;have V:=zaJ n;have U:=zC fun W (h:Rd W (some ⟨b,a,none⟩) (Bts xs))=>zkE (n:Int) xs (some ⟨b,a,none⟩) cap W om om h;have Y:=x.cap;have y:=zC fun W (h:W.rangeAt b a (Bts xs))=>ztE n hash N T xs k b a cap (by rw[←k];exact Y) W h;rw[←k,Q]at y;simp only[zcC,Option.isSome_some]at y;clear K k Z V;unfold zcK at *;go_enter Tryz.func35,Tryz.ntmps35;go_wp2_with fail;refine mnx w (D.out _ (x.step zo)) fun H B C z1=> ?_;have s:Blk H w [n,.slice (some ⟨b,a,none⟩) xs.length cap] 40:=((Blk.new w _ _).alloc _).step B;have t:Blk H (w.heap.size+1) [.int .i64 0,.slice none 0 0] 40:=by
  have h:=(Blk.new (w.alloc (.cells #[n,.slice (some ⟨b,a,none⟩) xs.length cap] 40)) [.int .i64 0,.slice none 0 0] 40).step B;rwa[zY]at h
 obtain⟨k1,k2⟩:=s.c2;go_wp2_with fail;refine(U.out _ (x.rd.step C)).mono ?_;rintro e f ⟨d,j,rfl,o,m⟩;have q:=zA C m;have z2:=q.size;have r:=s.step m;have l:=t.step m;obtain⟨k3,k4⟩:=r.c2;have l1:=r.lt;have l2:=l.lt;go_wp2_with fail;refine(y.out _ (yV (yV X q) ((zJ _ f).alloc (zF _) _))).mono ?_;rintro e J ⟨rfl,E⟩;have u:Below f f J:=zA ((zJ _ f).alloc (zF _) _) E;have aa:=zA q u;have z:Blk J f [n,.slice (some ⟨d,0,none⟩) xs.length j] 40:=(Blk.new f _ _).step E;have c:=l.step u;have A:=o.step u;have P:=z.cell 0;have q1:=z.cell 1;have R:=c.cell 0;have O:=c.cell 1;have f0:=c.free 0;have f1:=c.free 1;have g:=(c.set 0 (.int .i64 (n:Int))).set 1 (.slice (some ⟨d,0,none⟩) xs.length j);have M:=g.cell 0;have L:=g.cell 1;simp only[sC0,sCs,lgz,lgs]at P q1 M L R O;have zb:w.heap.size+1<d:=by have:=t.lt;have:=o.1;omega
 have F:=((A.mono (base':=w.heap.size) om).other (w.heap.size+1) 0 (.int .i64 (n:Int)) om).other (w.heap.size+1) 1 (.slice (some ⟨d,0,none⟩) xs.length j) om;have S:=zC F;clear o A F g c z r l s t;go_wp2;exact bodyPost_ret (v:=.tuple #[.agg #[n,.slice (some ⟨d,0,none⟩) xs.length j],i,.int .i64 0]) (by simp[results,Tryz.results35,go_sem,M,L]) rfl ⟨d,j,rfl,S.out,(aa.setCell (p:=⟨w.heap.size+1,0,none⟩) by1 _).setCell (p:=⟨w.heap.size+1,1,none⟩) by1 _⟩
end Go.Proofs.YthhgkafloejjiaaGreat
namespace Go.Proofs.YthhgkafloejjiaaGreat
open Go.RowKit
theorem znU:∀(a b:List Int) (i:Nat) (y:Int),S10.setMany b i (a ++ [y])=(S10.setMany b i a).set (i+a.length) y
 | [],b,i,y=>rfl
 | z::a,b,i,y=>by
   show S10.setMany (b.set i z) (i+1) (a ++ [y])=(S10.setMany (b.set i z) (i+1) a).set (i+(a.length+1)) y;rw[znU a (b.set i z) (i+1) y]
   congr 1;omega
theorem zcU:∀(b a:List Int) (i:Nat),(S10.setMany a i b).length=a.length
 | [],a,i=>rfl
 | z::b,a,i=>by
   show(S10.setMany (a.set i z) (i+1) b).length=_;rw[zcU b,yH]
theorem OB.setCells{d b cap:Nat}:∀(a:List Int) (i:Nat) (w:World) (c:List Int),OB w d b cap c→OB (w.setCells b i (Bts a)) d b cap (S10.setMany c i a)
 | [],i,w,c,h=>h
 | y::a,i,w,c,h=>OB.setCells a (i+1) _ _ (h.set i y)
theorem Below.setCells{B b:Nat}(c:B≤b):∀(a:List Value) (i:Nat) (A w:World),Below B A w→Below B A (w.setCells b i a)
 | [],i,A,w,h=>h
 | v::a,i,A,w,h=>Below.setCells c a (i+1) A _ (h.setCell (p:=⟨b,i,none⟩) c v)
theorem Blk.setCellsOut{c:Nat}{e:List Value}{t:TypeId}(b:Nat)(d:¬c=b):∀(a:List Value) (i:Nat) (w:World),Blk w c e t→Blk (w.setCells b i a) c e t
 | [],i,w,h=>h
 | v::a,i,w,h=>Blk.setCellsOut b d a (i+1) _ (h.other b i v d)
theorem zero10(w:World):(zeroValue 5).run Tryz.prog w = .ok (.int .u8 0) w:=by kernel_rfl
theorem open10_new(n:Nat)(xs:List Int)(hash i:Nat)(Y:n≤16)(l:xs.length=16*2^n)(Q:hash<4294967296)(hc:S10.check (n:Int) xs=0)(hi:S10.find n xs hash=none)(ao:S10.least xs (S10.places n hash)=some i)(ae:i<2^n)(b c cap:Nat)(w:World)(z:Tab xs (some ⟨b,c,none⟩) cap w)(y:w.rangeAt b c (Bts xs)) :
 Calls Tryz.prog 35 #[zcK (n:Int) xs (some ⟨b,c,none⟩) cap,.int .u32 (hash:Int)] w fun e w'=>∃b ay,e = .returned (.tuple #[zcK (n:Int) xs (some ⟨b,0,none⟩) ay,i,.int .i64 0])∧OB w' w.heap.size b ay (S10.fresh xs i (S10.mark hash))∧Below w w w':=by
 have HC:=zC fun W (h:Tab xs (some ⟨b,c,none⟩) cap W)=>zfV (n:Int) xs h.ok (some ⟨b,c,none⟩) cap h.cap W h.rd;rw[hc]at HC;have ai:=zaX Y;have aD:=zaJ n;have aI:=zC fun W (h:Rd W (some ⟨b,c,none⟩) (Bts xs))=>zkE (n:Int) xs (some ⟨b,c,none⟩) cap W om om h;have ah:=z.cap;have K:=zC fun W (h:W.rangeAt b c (Bts xs))=>ztE n hash Y Q xs l b c cap (by rw[←l];exact ah) W h;rw[←l,hi]at K;simp only[Option.getD_none,Option.isSome_none]at K;have G:=zC fun Bs Bn B W y h1 h2 h3 h4=>least10_any n hash Y Q xs l z.ok b c cap (by rw[←l];exact ah) Bs Bn B W y h1 h2 h3 h4;rw[ao]at G;simp only[zcC]at G;have HS:=zC fun a f (h:xs.length≤f) V=>zgQ (n:Int) a 0 i (2^n) f ae ai om V;rw[←l]at HS;have ab:16*i+15<xs.length:=by omega
 have ap:=zC ab;have HM:=zC fun V=>zsZ hash Q V;clear hc l ai aD ao hi ab ae;generalize aL:S10.mark hash=s at *;clear aL;unfold zcK at *;go_enter Tryz.func35,Tryz.ntmps35;go_wp2_with fail;refine mnx w (HC.out _ (z.step zo)) fun I av al z1=> ?_;have U:Blk I w [n,.slice (some ⟨b,c,none⟩) xs.length cap] 40:=((Blk.new w _ _).alloc _).step av;have N:Blk I (w.heap.size+1) [.int .i64 0,.slice none 0 0] 40:=by
  have h:=(Blk.new (w.alloc (.cells #[n,.slice (some ⟨b,c,none⟩) xs.length cap] 40)) [.int .i64 0,.slice none 0 0] 40).step av;rwa[zY]at h
 obtain⟨k1,k2⟩:=U.c2;go_wp2_with fail;refine(aI.out _ (z.rd.step al)).mono ?_;rintro e k ⟨a,f,rfl,r,H⟩;have O:=zA al H;have z2:=O.size;have t:=U.step H;have M:=N.step H;obtain⟨k3,k4⟩:=t.c2;have l1:=t.lt;have l2:=M.lt;go_wp2_with fail;refine(K.out _ (yV (yV y O) ((zJ _ k).alloc (zF _) _))).mono ?_;rintro e d ⟨rfl,am⟩;have A:Below k k d:=zA ((zJ _ k).alloc (zF _) _) am;have aF:=zA O A;have ak:Blk d k [n,.slice (some ⟨a,0,none⟩) xs.length f] 40:=(Blk.new k _ _).step am;have L:=t.step A;have au:=M.step A;have ad:=r.step A;have m1:=L.cell 0;simp only[lgz]at m1;have zb:w.heap.size+1<a:=by have:=N.lt;have:=r.1;omega
 have aM:a<k.heap.size:=r.lt;go_wp2_with fail;refine(zsT _ _ _).mono ?_;rintro e D ⟨rfl,E⟩;have q:Below d d D:=by rw[E];exact((zJ _ d).alloc (zF _) _).alloc by1 _
 have ar:=zA aF q;have p1:Blk D d [n] 3:=by rw[E];exact(Blk.new d _ _).alloc _
 have p2:Blk D (d.heap.size+1) [.int .u32 (hash:Int)] 85:=by rw[E];have h:=Blk.new (d.alloc (Obj.cells #[Value.int IntKind.i64 (n:Int)] 3)) [.int .u32 (hash:Int)] 85;rwa[zY]at h
 clear E;have T:=L.step q;have aa:=au.step q;have ax:=ak.step q;have aw:=ad.step q;go_wp2_with fail;refine mnb ar (G.out d.heap.size (d.heap.size+1) w.heap.size D (yV y ar) (T.cell 0) (T.cell 1) (p1.cell 0) (p2.cell 0)) fun w5 X aH=> ?_;have Z:=ax.step X;have aj:=aa.step X;have aq:=aw.step X;obtain⟨q0,q1⟩:=Z.c2;go_wp2_with fail;refine mnb aH (HS.out a f r.2.1 _) fun C S aC=> ?_;have aA:=Z.step S;have aB:=aj.step S;have u:=aq.step S
 have aE:∀R,(Builtin.clear_ #[38] R #[.slice (some ⟨a,0+16*i,none⟩) 16 16]).run Tryz.prog C = .ok (.tuple #[]) (C.setCells a (0+16*i) (List.replicate 16 (.int .u8 0))):=
  fun R=>Lib.run_clear_slice C 38 5 R (.int .u8 0) Tryz.underlying38 zero10 rfl rfl a (0+16*i) 16 16 om (fun j hj=>by rw[yE,u.at (by have:=ap.out;omega)];rfl) (fun j hj=>u.free _)
 rw[yE]at *;obtain⟨F,m⟩:=zvJ (C.setCells a (16*i) (List.replicate 16 (.int .u8 0)));rw[m]at aE;have aK:Below w w F:=by rw[←m];exact Below.setCells om _ _ _ _ aC
 have an:Blk F k [n,.slice (some ⟨a,0,none⟩) xs.length f] 40:=by rw[←m];exact Blk.setCellsOut a om _ _ _ aA
 have ag:Blk F (w.heap.size+1) [.int .i64 0,.slice none 0 0] 40:=by rw[←m];exact Blk.setCellsOut a om _ _ _ aB
 have ac:OB F I.heap.size a f (S10.setMany xs (16*i) (List.replicate 16 0)):=by rw[←m];exact OB.setCells (List.replicate 16 0) _ _ _ u
 clear m;go_wp2_with fail;refine mnb aK (HM.out _) fun w8 J aJ=> ?_;have P:=an.step J;have o:=ag.step J;have x:=ac.step J;have p0:=x.at (i:=16*i) (by rw[zcU];have:=ap.out;omega);have aN:w8.frozen? ⟨a,16*i,none⟩=false:=x.free _;have q0:=(P.other a (16*i) (.int .u8 (s:Int)) om).cell 0;have q1:=(P.other a (16*i) (.int .u8 (s:Int)) om).cell 1;have af:=(o.other a (16*i) (.int .u8 (s:Int)) om);have r0:=o.cell 0;have r1:=o.cell 1;have f0:=o.free 0;have f1:=o.free 1;have g:=(af.set 0 (.int .i64 (n:Int))).set 1 (.slice (some ⟨a,0,none⟩) xs.length f);have g0:=g.cell 0;have g1:=g.cell 1;simp only[sC0,sCs,lgz,lgs]at q0 q1 g0 g1 r0 r1;have az:=(((x.set (16*i) (s:Int)).mono (base':=w.heap.size) om).other (w.heap.size+1) 0 (.int .i64 (n:Int)) om).other (w.heap.size+1) 1 (.slice (some ⟨a,0,none⟩) xs.length f) om;have aG:=zC az;clear r ad aw aq u ac x az g af ak ax Z aA an P t M U N L au T aa aj aB ag o k1 k2 k3 k4 m1 p1 p2;go_wp2;exact bodyPost_ret (v:=.tuple #[.agg #[n,.slice (some ⟨a,0,none⟩) xs.length f],i,.int .i64 0]) (by simp[results,Tryz.results35,go_sem,g0,g1]) rfl ⟨a,f,rfl,aG.out,((aJ.setCell (p:=⟨a,16*i,none⟩) by7 _).setCell (p:=⟨w.heap.size+1,0,none⟩) by1 _).setCell (p:=⟨w.heap.size+1,1,none⟩) by1 _⟩
end Go.Proofs.YthhgkafloejjiaaGreat
namespace Go.Proofs.YthhgkafloejjiaaGreat
open Go.RowKit
theorem S10.places_ne(a hash:Nat):S10.places a hash≠ []:=fun h=>by
 have b:S10.first a hash ^^^ 0∈S10.places a hash:=by
  unfold S10.places S10.plc;rw[List.mem_filter];exact⟨List.mem_map.2 ⟨0,by simp,rfl⟩,by simp[S10.first_lt]⟩
 rw[h]at b;cases b
theorem S10.least_ok(xs:List Int)(a hash:Nat):∃i,S10.least xs (S10.places a hash)=some i∧i<2^a∧i∈S10.places a hash:=by
 obtain⟨i,b⟩:=S10.least_some xs (S10.places a hash) none (S10.places_ne a hash);rcases S10.least_mem xs _ _ _ b with h|h
 ·exact⟨i,b,S10.plc_lt h,h⟩
 ·cases h
theorem TO.tab{w:World}{c b cap:Nat}{a:Int}{xs d:List Int}(e:OB w c b cap xs)(f:d.length=xs.length):TO w c a xs (zcK a d (some ⟨b,0,none⟩) cap):=by
 refine .inr ⟨b,cap,?_,e⟩;unfold zcK;rw[f]
theorem open10_any(c:Int)(xs:List Int)(hash:Nat)(r:hash<4294967296)(a:Option Addr)(cap:Nat)(w:World)(h:Tab xs a cap w) :
 Calls Tryz.prog 35 #[zcK c xs a cap,.int .u32 (hash:Int)] w fun e g=>∃V,e = .returned (.tuple #[V,(S10.openN c xs hash:Int),(S10.check c xs)])∧TO g w.heap.size (S10.openB c xs) (S10.openX c xs hash) V∧Below w w g:=by
 by_cases d:S10.check c xs=0
 ·have m:S10.openB c xs=c:=zQ d;have j:S10.openN c xs hash=((S10.find c.toNat xs hash).getD ((S10.least xs (S10.places c.toNat hash)).getD 0)):=zQ d;have l:S10.openX c xs hash=(if(S10.find c.toNat xs hash).isSome then xs else S10.fresh xs (S10.openN c xs hash) (S10.mark hash)):=zQ d;rw[l,j,m,d];obtain⟨n,rfl,u,o,_⟩:=S10.correct d;obtain⟨b,p,rfl,s⟩:=h.rd (fun e=>by have t:=yG List.length e;rw[zaC,o]at t;have z:=zaJ n;simp only[List.length_nil]at t;omega);rw[Int.toNat_natCast];cases hi:S10.find n xs hash with
  | some i=>
    refine(open10_found n xs hash i u o r d hi b p cap w h s).mono ?_;rintro e g ⟨x,y,rfl,k,f⟩;exact⟨_,rfl,TO.tab k rfl,f⟩
  | none=>
    obtain⟨i,q,v,_⟩:=S10.least_ok xs n hash;refine(open10_new n xs hash i u o r d hi q v b p cap w h s).mono ?_;rintro e g ⟨x,y,rfl,k,f⟩;rw[q];simp only[Option.getD_none,zcC,Option.isSome_none,Bool.false_eq_true,if_false];exact⟨_,rfl,TO.tab k (by unfold S10.fresh;rw[yH,zcU]),f⟩
 ·have m:S10.openB c xs=0:=zG d;have j:S10.openN c xs hash=0:=zG d;have l:S10.openX c xs hash = []:=zG d;rw[l,j,m];refine(open10_bad c xs hash a cap w h d).mono ?_;rintro e g ⟨rfl,f⟩;exact⟨_,rfl,TO.nil _ _,f⟩
end Go.Proofs.YthhgkafloejjiaaGreat
namespace Go.Proofs.YthhgkafloejjiaaGreat
open Go.RowKit
def OK8(xs:List Int):Prop:=∀x∈xs,0≤x∧x<256
def Fr(a:Option Addr)(n:Nat):Prop:=∀b o,a=some ⟨b,o,none⟩→n≤b
theorem Fr.mono{a:Option Addr}{n m:Nat}(h:Fr a n)(c:m≤n):Fr a m:=fun b o e=>yD c (h b o e)
theorem TO.open{w:World}{i:Nat}{f:Int}{xs:List Int}{V:Value}(h:TO w i f xs V)(g:OK8 xs):∃a d,V=zcK f xs a d∧Tab xs a d w∧Fr a i:=by
 rcases h with⟨rfl,rfl,rfl⟩|⟨b,d,rfl,c⟩
 ·exact⟨none,0,rfl,⟨g,zF _,Rd.nil _ _⟩,fun b o e=>by cases e⟩
 ·exact⟨_,_,rfl,⟨g,c.2.1,c.rd⟩,fun b o e=>by cases e;exact c.1⟩
theorem OK8.set{xs:List Int}(h:OK8 xs)(i:Nat)(v:Int)(a:0≤v∧v<256):OK8 (xs.set i v):=fun x b=>by
 rcases List.mem_or_eq_of_mem_set b with c|rfl
 ·exact h x c
 ·exact a
theorem OK8.setMany:∀(a:List Int) (i:Nat) (b:List Int),OK8 b→OK8 a→OK8 (S10.setMany b i a)
 | [],i,b,h,_=>h
 | y::a,i,b,h,h2=>OK8.setMany a (i+1) _ (h.set i y (h2 y List.mem_cons_self)) (fun x c=>h2 x (List.mem_cons_of_mem _ c))
theorem OK8.zeros(n:Nat):OK8 (List.replicate n 0):=fun x a=>by rw[List.eq_of_mem_replicate a];omega
theorem S10.mark_lt{h:Nat}(a:h<4294967296):S10.mark h<256:=by unfold S10.mark;omega
theorem OK8.fresh{xs:List Int}(h:OK8 xs)(n a:Nat)(b:a<256):OK8 (S10.fresh xs n a):=by
 unfold S10.fresh;exact(OK8.setMany _ _ _ h (OK8.zeros _)).set _ _ ⟨by omega,by omega⟩
theorem OK8.openX{xs:List Int}(h:OK8 xs)(a:Int)(hash:Nat)(e:hash<4294967296):OK8 (S10.openX a xs hash):=by
 have f:=S10.mark_lt e;have g:=OK8.fresh h (S10.openN a xs hash) (S10.mark hash) f;by_cases c:S10.check a xs=0
 ·have b:S10.openX a xs hash=(if(S10.find a.toNat xs hash).isSome then xs else S10.fresh xs (S10.openN a xs hash) (S10.mark hash)):=zQ c;rw[b];split
  ·exact h
  ·exact g
 ·have b:S10.openX a xs hash = []:=zG c;rw[b];intro x d;cases d
theorem OK8.setX{xs:List Int}(h:OK8 xs)(c n k b:Int):OK8 (S10.setX c xs n k b):=by
 by_cases a:S10.setE c xs n k b=0
 ·have d:S10.setX c xs n k b=xs.set (16*n.toNat+k.toNat) b:=zQ a;rw[d];refine h.set _ _ ?_;unfold S10.setE at a;split at a
  ·split at a
   ·omega
   ·cases a
  ·rename_i f;exact absurd a f
 ·have d:S10.setX c xs n k b = []:=zG a;rw[d];intro x e;cases e
end Go.Proofs.YthhgkafloejjiaaGreat
namespace Go.Proofs.YthhgkafloejjiaaGreat
open Go.RowKit
def S10.bad2(xs:List Int)(j:Nat):Bool:=decide (j%16≠0)&&decide (215≤xs.getD j 0)
def S10.badP(xs:List Int)(i:Nat):Bool:=(List.range i).any (S10.bad2 xs)
theorem S10.badP_succ(xs:List Int)(i:Nat):S10.badP xs (i+1)=(S10.badP xs i||S10.bad2 xs i):=by
 unfold S10.badP;rw[List.range_succ,List.any_append,List.any_cons,List.any_nil,Bool.or_false]
theorem S10.badP_mono{xs:List Int}{i k:Nat}(h:S10.bad2 xs i=true)(a:i<k):S10.badP xs k=true:=by
 unfold S10.badP;rw[List.any_eq_true];exact⟨i,List.mem_range.2 a,h⟩
theorem S10.mem_tail{xs:List Int}{k:Nat}{x:Int}(c:16*k+16≤xs.length):x∈S10.tail xs k↔∃j,1≤j∧j<16∧xs.getD (16*k+j) 0=x:=by
 unfold S10.tail;constructor
 ·intro h;obtain⟨i,a,rfl⟩:=List.mem_iff_getElem.1 h;simp only[yJ,List.length_drop]at a;refine⟨i+1,by omega,by omega,?_⟩;rw[List.getElem_take,List.getElem_drop,zK,zD om];simp only[zcC]
  congr 1;omega
 ·rintro⟨j,b,d,rfl⟩;rw[List.mem_iff_getElem];refine⟨j-1,by simp;omega,?_⟩;rw[List.getElem_take,List.getElem_drop,zK,zD om];simp only[zcC]
  congr 1;omega
theorem S10.bad_eq{xs:List Int}{m:Nat}(h:xs.length=16*m):S10.bad xs m=S10.badP xs (16*m):=by
 rw[Bool.eq_iff_iff];unfold S10.bad S10.badP S10.bad2;simp only[List.any_eq_true,List.mem_range,zS,yC];constructor
 ·rintro⟨k,f,x,c,a⟩;obtain⟨j,d,b,rfl⟩:=(S10.mem_tail om).1 c;exact⟨16*k+j,by omega,by omega,by unfold S10.bad1 at a;simpa using a⟩
 ·rintro⟨j,g,d,b⟩
  exact⟨j/16,by omega,_,(S10.mem_tail om).2 ⟨j%16,by omega,by omega,rfl⟩,by
   have e:16*(j/16)+j%16=j:=by omega
   rw[e];unfold S10.bad1;simpa using b⟩
theorem ztC(x:Int):IntKind.i64.wrap x=wrap64 x:=by rw[IntKind.wrap_i64];unfold wrap64;omega
theorem zlE{x:Int}(h : -9223372036854775808≤x)(a:x<9223372036854775808):IntKind.i64.wrap x=x:=(ztC x).trans (IntWalk.wrap64_in _ ⟨by omega,by omega⟩)
theorem Bts_ix{xs:List Int}{k:Nat}(h:k<xs.length):(Bts xs)[k]? = some (.int .u8 (xs.getD k 0)):=by
 unfold Bts;rw[yI,zD h,zK,zD h];rfl
theorem zuE(n:Nat)(hn:n≤16)(xs:List Int)(x:xs.length=16*2^n)(a:Option Addr)(cap:Nat)(w:World)(q:Tab xs a cap w) :
 Calls Tryz.prog 72 #[zcK (n:Int) xs a cap] w fun e w'=>e = .returned (.int .i64 (if S10.badP xs xs.length then 3 else 0))∧Below w w w':=by
 have J:=zaX hn;have ad:=zaJ n;have HZ:=zC fun W=>zbW n om W;obtain⟨b,c,rfl,ai⟩:=q.rd (fun e=>by have I:=yG List.length e;rw[zaC,x]at I;simp only[List.length_nil]at I;omega);have Z:=zC q.ok;have L:(xs.length:Int)=16*((2^n:Nat):Int):=by rw[x];simp
 have X:wrap64 (16*((2^n:Nat):Int))=xs.length:=by rw[L];generalize 2^n=m at J⊢;exact IntWalk.wrap64_in _ ⟨by omega,by omega⟩
 have am:xs.length≤2097152:=by omega
 have b1:¬((n:Int)<0):=by omega
 have b2:¬(16<(n:Int)):=by omega
 obtain⟨t,A⟩:∃t:Int,(if S10.badP xs xs.length then 3 else 0)=t:=⟨_,rfl⟩;rw[A];obtain⟨H,Hs,Hm⟩:=zh3 A (S10.badP_succ xs) (fun i hi h=>S10.badP_mono (xs:=xs) (i:=i) (k:=xs.length) h hi);unfold zcK;have an:=q.cap;clear q A x L ad J;generalize 2^n=m at *;go_enter Tryz.func72,Tryz.ntmps72;go_wp2;have V:Below w w (w.alloc (Obj.cells #[n,.slice (some ⟨b,c,none⟩) xs.length cap] 40)):=(zJ _ _).alloc (zF _) _;have s:Blk (w.alloc (Obj.cells #[n,.slice (some ⟨b,c,none⟩) xs.length cap] 40)) w.heap.size [n,.slice (some ⟨b,c,none⟩) xs.length cap] 40:=Blk.new w _ _;generalize w.alloc (Obj.cells #[n,.slice (some ⟨b,c,none⟩) xs.length cap] 40)=P at *;have B:Cells P [(⟨w,0,none⟩,n),(⟨w,1,none⟩,.slice (some ⟨b,c,none⟩) xs.length cap)]:=⟨s.cell 0,s.cell 1,zT⟩;refine zvL 8 0 [(U,0,5),(zvE,5,1),(U,6,2)] (Keeps P [(⟨w,0,none⟩,n),(⟨w,1,none⟩,.slice (some ⟨b,c,none⟩) xs.length cap)]) (Keeps.start B) fun Y G S hY d=> ?_;repeat refine mrd ?_
 refine mcl ?_;refine mck (Keeps.start B) (HZ.out _) fun E ak y=> ?_;repeat refine mrd ?_
 refine mdn d fun K f=> ?_;clear d hY;refine mok f ?_;clear f;have N:=zA V y.1;have a1:=s.step y.1;have aj:IntKind.i64.wrap (16*(m:Int))=xs.length:=(ztC _).trans X;rw[aj,bne_self_eq_false];clear ak y B s V;go_wp2
 go_loopw [3] (fun i wr=>∃k:Nat,k≤xs.length∧i = .int .i64 (k:Int)∧S10.badP xs k=false∧Below E E wr)
  (fun i _=>xs.length-(intOf i).toNat)
 case atStart=>exact⟨0,by omega,rfl,rfl,zJ _ _⟩
 case round=>
  obtain⟨k,hk,rfl,C,o⟩:=hrel;have R:=zC C;have Q:=zA N o;have a2:=a1.step o;obtain⟨c0,c1⟩:=a2.c2;clear C;by_cases p:k<xs.length
  ·have ae:wr.cell? ⟨b,c+k,none⟩=some (.int .u8 (xs.getD k 0)):=yV ai Q k _ (Bts_ix p);have hr:0≤xs.getD k 0∧xs.getD k 0<256:=by
    rw[zK,zD p];exact Z.out _ (yR p)
   have g:=Hs.out k;have u:=Hm.out k p;have l:S10.bad2 xs k=(decide (k%16≠0)&&decide (215≤xs.getD k 0)):=rfl;generalize S10.bad2 xs k=F at *;generalize xs.getD k 0=v at *;rw[R.out,Bool.false_or]at g;have ev:IntKind.i64.wrap v=v:=zlE om om;have ek:((k:Int)%16=((k%16:Nat):Int)):=by omega
   have j:Cells wr [(⟨w,1,none⟩,.slice (some ⟨b,c,none⟩) xs.length cap),(⟨b,c+k,none⟩,.int .u8 v)]:=⟨c1,ae,zT⟩;by_cases T:k%16=0
   ·have D:F=false:=by rw[l];simp[T]
    rw[D]at g;have z:=zC g;have eg:(k:Int).tmod 16=0:=by rw[Int.tmod_eq_emod_of_nonneg om];omega
    clear g u l D;go_wp2;refine zvL 13 0 [(U,0,10),(zvE,10,1),(U,11,2)] (Keeps wr [(⟨w,1,none⟩,.slice (some ⟨b,c,none⟩) xs.length cap),(⟨b,c+k,none⟩,.int .u8 v)]) (Keeps.start j) fun Y G S hY d=> ?_;repeat refine mrd ?_
    repeat first|refine mud ?_|refine msk (Keeps.start j) ?_
    repeat refine mrd ?_
    refine mdn d fun K f=> ?_;clear d hY;refine mok f ?_;clear f;have al:Below wr wr wr.drew:=(Keeps.start j).1;generalize wr.drew=w5 at *;have r:=zA o al;go_wp2;go_roundw
    case rel=>exact⟨k+1,by omega,by simp,z.out,r⟩
    case measure=>simp[intOf];omega
   ·have O:F=decide (215≤v):=by rw[l];simp[T]
    obtain⟨ah,z⟩:=zh2 u g;have eg:((k:Int).tmod 16 != 0)=true:=by rw[Int.tmod_eq_emod_of_nonneg om];simp;omega
    clear g u l;go_wp2;refine zvL 13 0 [(U,0,10),(zvE,10,1),(U,11,2)] (Keeps wr [(⟨w,1,none⟩,.slice (some ⟨b,c,none⟩) xs.length cap),(⟨b,c+k,none⟩,.int .u8 v)]) (Keeps.start j) fun Y G S hY d=> ?_;repeat refine mrd ?_
    refine mcl ?_;refine mck (Keeps.start j) (zgM _) fun w5 ao ac=> ?_;repeat refine mrd ?_
    refine mdn d fun K f=> ?_;clear d hY;refine mok f ?_;clear f;have r:=zA o ac.1;have ab:=zA N r;by_cases M:215≤v
    ·have af:t=3:=by rw[←H.out,ah.out (by rw[O];simpa using M)];rfl
     go_wp2;go_returns;exact⟨by rw[af];rfl,ab⟩
    ·have ag:=zC (show S10.badP xs (k+1)=false by rw[z.out,O];simpa using M);go_wp2;go_roundw
     case rel=>exact⟨k+1,by omega,by simp,ag.out,r⟩
     case measure=>simp[intOf];omega
  ·obtain rfl:k=xs.length:=by omega
   have aa:t=0:=by rw[←H.out,R.out];rfl
   go_wp2;go_returns;exact⟨by rw[aa];rfl,Q⟩
theorem zcX(b:Int)(xs:List Int)(a:Option Addr)(cap:Nat)(w:World)(q:Tab xs a cap w) :
 Calls Tryz.prog 72 #[zcK b xs a cap] w fun e o=>e = .returned (.int .i64 (S10.check b xs))∧Below w w o:=by
 by_cases c:b<0∨16<b
 ·rw[S10.check_range c];unfold zcK;rcases c with c|c
  ·go_enter Tryz.func72,Tryz.ntmps72;exact mf4
  ·have d:¬b<0:=by omega
   go_enter Tryz.func72,Tryz.ntmps72;exact mf4
 ·by_cases d:xs.length=16*2^b.toNat
  ·rw[S10.check_form c d];obtain⟨n,rfl⟩:=Int.eq_ofNat_of_zero_le (show 0≤b by omega);rw[Int.toNat_natCast]at *;rw[S10.bad_eq d,←d];exact zuE n om xs d a cap w q
  ·rw[S10.check_many c d];obtain⟨n,rfl⟩:=Int.eq_ofNat_of_zero_le (show 0≤b by omega);rw[Int.toNat_natCast]at *;have s:n≤16:=by omega
   have r:=zaX s;have p:=zC fun W=>zbW n om W;have B:¬((n:Int)<0):=by omega
   have A:¬(16<(n:Int)):=by omega
   generalize 2^n=m at *;have v:IntKind.i64.wrap (16*(m:Int))=16*(m:Int):=zlE om om;have x:((xs.length:Int) != 16*(m:Int))=true:=by simp only[bne_iff_ne,ne_eq];omega
   unfold zcK;clear c d r;go_enter Tryz.func72,Tryz.ntmps72;go_wp2;have t:Below w w (w.alloc (Obj.cells #[n,.slice a xs.length cap] 40)):=(zJ _ _).alloc (zF _) _;have i:Blk (w.alloc (Obj.cells #[n,.slice a xs.length cap] 40)) w.heap.size [n,.slice a xs.length cap] 40:=Blk.new w _ _;generalize w.alloc (Obj.cells #[n,.slice a xs.length cap] 40)=g at *;have j:Cells g [(⟨w,0,none⟩,n),(⟨w,1,none⟩,.slice a xs.length cap)]:=⟨i.cell 0,i.cell 1,zT⟩;refine zvL 8 0 [(U,0,5),(zvE,5,1),(U,6,2)] (Keeps g [(⟨w,0,none⟩,n),(⟨w,1,none⟩,.slice a xs.length cap)]) (Keeps.start j) fun Y z C hY f=> ?_;repeat refine mrd ?_
   refine mcl ?_;refine mck (Keeps.start j) (p.out _) fun y u l=> ?_;repeat refine mrd ?_
   refine mdn f fun K h=> ?_;clear f hY;refine mok h ?_;clear h;have k:=zA t l.1;skip
   exact mf1 k
end Go.Proofs.YthhgkafloejjiaaGreat
namespace Go.Proofs.YthhgkafloejjiaaGreat
open Go.RowKit
theorem elems_int1:Elems Tryz.prog 41 3 1 8 [.int .i64 0]:=⟨Tryz.underlying41,by kernel_rfl,rfl,by decide⟩
def Nts(l:List Nat):List Value:=l.map fun i:Nat=>Value.int .i64 (i:Int)
theorem Nts_one(l:List Nat):∀u∈Nts l,u.oneCell'=true:=by
 intro u a;obtain⟨x,_,rfl⟩:=List.mem_map.1 a;rfl
theorem ztM(l:List Nat):(Nts l).length=l.length:=yO _
theorem Nts_at{l:List Nat}{k:Nat}(h:k<l.length):(Nts l)[k]? = some (.int .i64 ((l.getD k 0:Nat):Int)):=by
 unfold Nts;rw[yI,zD h,zK,zD h];rfl
theorem owns_mono{w:World}{b base':Nat}{e:TypeId}{c n:Nat}{v:Value}{xs:List Value}(h:w.ownsRow b e c v n xs)(d:base'≤b):w.ownsRow base' e c v n xs:=by
 refine⟨h.1,?_⟩;rcases h.2 with a|⟨g,i,j,a,f,r⟩
 ·exact .inl a
 ·exact .inr ⟨g,i,j,a,yD d f,r⟩
theorem zpU(h:Nat)(f:h<4294967296)(w:World):Calls Tryz.prog 98 #[.int .u32 (h:Int)] w fun e c=>e = .returned (.int .u8 (S10.mark h:Int))∧Below w w c:=by
 have e:(h:Int)/16777216%256=(S10.mark h:Int):=by unfold S10.mark;omega
 have a:(h:Int)/16777216=(S10.mark h:Int):=by unfold S10.mark;omega
 have b:(h:Int).tdiv 16777216=(S10.mark h:Int):=by rw[zaF om];exact a
 have d:(S10.mark h:Int)%256=(S10.mark h:Int):=by unfold S10.mark;omega
 go_enter Tryz.func98,Tryz.ntmps98;go_wp2;go_returns;refine⟨?_,by go_grown⟩;first|rfl|simp[e,a,b,d]
theorem zkR(b hash:Nat)(F:b≤16)(hh:hash<4294967296)(w:World) :
 Calls Tryz.prog 96 #[b,.int .u32 (hash:Int)] w fun e z=>∃a g,e = .returned (.slice a (S10.places b hash).length g)∧z.ownsRow w.heap.size 3 1 (.slice a (S10.places b hash).length g) (S10.places b hash).length (Nts (S10.places b hash))∧Below w w z:=by
 have R:=zC fun W=>zbW b om W;have U:=zaX F;have ad:=zaJ b;have hi:S10.first b hash<65536:=zbA (S10.first_lt b hash) U;have u:=S10.plc_succ b hash;have y:=S10.plc_len b hash;have D:S10.plc b hash 3=S10.places b hash:=rfl;have q:S10.first b hash=(hash*2654435761%4294967296)%2^b:=rfl;generalize S10.first b hash=i at *;generalize 2^b=N at *;have ef:((2654435761*(hash:Int))%4294967296).tmod (N:Int)=(i:Int):=by
  rw[Int.tmod_eq_emod_of_nonneg om,q];have J:(2654435761*(hash:Int))%4294967296=((hash*2654435761%4294967296:Nat):Int):=by omega
  rw[J];simp
 obtain⟨G,I,K⟩:=zh3 D u y;have aa:((N:Int)==0)=false:=by simp;omega
 clear D u y q;go_enter Tryz.func96,Tryz.ntmps96;go_wp2_with fail;refine mnx w (R.out _) fun d X H P=> ?_;go_wp2
 go_loopw [7,8] (fun v t wr=>∃k:Nat,k≤3∧t = .int .i64 (k:Int)∧wr.ownsRow d.heap.size 3 1 v (S10.plc b hash k).length (Nts (S10.plc b hash k))∧Below d d wr)
  (fun _ t _=>3-(intOf t).toNat)
 case atStart=>exact⟨0,by omega,rfl,⟨rfl,.inl ⟨rfl,rfl⟩⟩,zJ _ _⟩
 case round=>
  obtain⟨k,hk,rfl,c,f⟩:=hrel;have zr:=f.size;by_cases af:k<3
  ·have ex:Go.bits .xor .i64 (i:Int) (k:Int)=((i ^^^ k:Nat):Int):=zoJ i k om om;have A:=zC (I.out k);have ac:=K.out k;generalize S10.plc b hash k=l at *;generalize i ^^^ k=x at *;by_cases h:x<N
   ·have n:=zC (A.out.trans (zQ h));have Hx:=zC h;obtain⟨o,r,p,_⟩:=al1 wr [x] 3;have m:Below wr wr o:=by rw[←r];exact(zJ _ wr).alloc (zF _) _
    obtain⟨Z,ab,rfl,_,_⟩:=zaV c;obtain⟨C,L⟩:=zh2 (yM (B:=0) c m) (show Rd o (some ⟨wr,0,none⟩) (Nts [x])from fun _=>⟨_,0,rfl,p.cells⟩);have E:d.heap.size≤o.heap.size:=by have:=m.size;omega
    clear c p;go_wp2_with (at_builtin;(try rw[r]);refine yQ _ _ 41 3 1 8 _ d.heap.size elems_int1 rfl rfl _ l.length (Nts l) rfl C.out (some ⟨wr,0,none⟩) 1 1 (Nts [x]) rfl (by simp[Nts]) L.out (Nts_one _) by5 om E ?_;intro Y ae M s Q);have V:Below d d M:=Below.grown (zA f m) Q E (fun j e=>(zbP C.out e).1);refine⟨⟨k+1,by omega,by simp,?_,V⟩,by simp[intOf];omega⟩;rw[n.out];have O:Nts l++Nts [x]=Nts (l ++ [x]):=by unfold Nts;rw[List.map_append]
    rw[O]at s;simpa using s
   ·have n:=zC (A.out.trans (zG h));go_wp2;go_roundw
    case rel=>exact⟨k+1,by omega,by simp,by rw[n.out];exact c,f⟩
    case measure=>simp[intOf];omega
  ·obtain rfl:k=3:=by omega
   have T:=zA H f;rw[G.out]at c;obtain⟨a,g,rfl,_,_⟩:=zaV c;have S:=zC c;clear c;go_wp2;go_returns;exact⟨a,g,rfl,owns_mono S.out P,T⟩
end Go.Proofs.YthhgkafloejjiaaGreat
namespace Go.Proofs.YthhgkafloejjiaaGreat
open Go.RowKit
theorem zqY{l:List Nat}{k:Nat}(a:k<l.length):l.getD k 0=l[k]'a:=by
 rw[zK,zD a];rfl
theorem zoQ{α:Type}{p:α→Bool}{l:List α}{k:Nat}(b:k<l.length)(h:(l.take k).find? p=none)(a:p l[k]=true):l.find? p=some l[k]:=by
 have e:l=l.take k++(l[k]::l.drop (k+1)):=by rw[←List.drop_eq_getElem_cons b,zU]
 conv=>lhs;rw[e]
 rw[List.find?_append,h,List.find?_cons];simp only[a,Option.none_or]
theorem zsF{α:Type}{p:α→Bool}{l:List α}{k:Nat}(a:k<l.length)(h:(l.take k).find? p=none):(l.take (k+1)).find? p=if p l[k]=true then some l[k]else none:=by
 rw[List.take_succ_eq_append_getElem a,List.find?_append,h,List.find?_cons,List.find?_nil,Option.none_or];cases p l[k]<;>rfl
def optI:Option Nat→Int
 | some i=>(i:Int)
 | none=> -1
def S10.findI(bits:Nat)(xs:List Int)(hash:Nat):Int:=optI (S10.find bits xs hash)
theorem zpX(n hash:Nat)(g:n≤16)(hh:hash<4294967296)(xs:List Int)(P:xs.length=16*2^n)(a:Option Addr)(cap:Nat)(w:World)(x:Tab xs a cap w) :
 Calls Tryz.prog 95 #[zcK (n:Int) xs a cap,.int .u32 (hash:Int)] w fun e w'=>e = .returned (.int .i64 (S10.findI n xs hash))∧Below w w w':=by
 have HP:=zC fun W=>zkR n hash g hh W;have HM:=zC fun W=>zpU hash hh W;have an:=zaX g;have ai:=zaJ n;obtain⟨b,d,rfl,am⟩:=x.rd (fun e=>by have O:=yG List.length e;rw[zaC,P]at O;simp only[List.length_nil]at O;omega);have ae:S10.find n xs hash=(S10.places n hash).find? fun i=>xs.getD (16*i) 0==(S10.mark hash:Int):=rfl;unfold S10.findI;rw[ae];obtain⟨ac,q⟩:=zvJ (optI ((S10.places n hash).find? fun i=>xs.getD (16*i) 0==(S10.mark hash:Int)));rw[q];have z:∀i∈S10.places n hash,i<2^n:=fun i h=>S10.plc_lt h;have A:=S10.plc_len n hash 3;have af:(S10.places n hash).length≤3:=A;obtain⟨l,S⟩:=zvJ (S10.places n hash);rw[S]at HP q z af;clear S;generalize S10.mark hash=f at *;have C:∀i∈l,16*i<xs.length∧i<65536:=fun i h=>by have:=z i h;omega
 have ap:=zC C;have M:=x.cap;obtain⟨aw,ax⟩:=zh2 M (show xs.length≤2097152 by omega);unfold zcK;have H:=zC q;clear x P an ai z A q ae C M;go_enter Tryz.func95,Tryz.ntmps95;go_wp2_with fail;refine(HP.out _).mono ?_;rintro e o ⟨la,lc,rfl,I,aa⟩;have R:Below w w o:=zA ((zJ _ w).alloc (zF _) _) aa;have a1:Blk o w [n,.slice (some ⟨b,d,none⟩) xs.length cap] 40:=(Blk.new w _ _).step aa;have G:=Rd.of_owns I;have ao:=zC G;clear I G;go_wp2
 go_loopw [6] (fun t wr=>∃k:Nat,k≤l.length∧t = .int .i64 (k:Int)∧(l.take k).find? (fun i=>xs.getD (16*i) 0==(f:Int))=none∧Below o o wr)
  (fun t _=>l.length-(intOf t).toNat)
 case atStart=>exact⟨0,by omega,rfl,rfl,zJ _ _⟩
 case round=>
  obtain⟨k,hk,rfl,B,m⟩:=hrel;have r:=zC B;have ad:=zA R m;have a2:=a1.step m;have c1:=a2.cell 1;simp only[lgs,lgz]at c1;clear B;by_cases c:k<l.length
  ·obtain⟨u,s,rfl,V⟩:=ao.out.step m (fun e=>by rw[←List.length_eq_zero_iff,ztM]at e;omega);have L:=V k _ (Nts_at c);have hg:l.getD k 0=l[k]'c:=zqY c;rw[hg]at L;clear hg;have Q:=ap.out (l[k]'c) (yR c);have ab:(l.take (k+1)).find? (fun i=>xs.getD (16*i) 0==(f:Int))=if(xs.getD (16*(l[k]'c)) 0==(f:Int))=true then some (l[k]'c)else none:=by
    exact zsF c r.out
   have N:=zoQ (p:=fun i=>xs.getD (16*i) 0==(f:Int)) c r.out;have F:wr.cell? ⟨b,d+16*(l[k]'c),none⟩=some (.int .u8 (xs.getD (16*(l[k]'c)) 0)):=by
    exact yV am ad _ _ (Bts_ix Q.1)
   generalize l[k]'c=i at *;generalize xs.getD (16*i) 0=v at *;obtain⟨ar,av⟩:=Q;obtain⟨j,D⟩:=zvJ (16*i);have eW:IntKind.i64.wrap (16*(i:Int))=(j:Int):=(zlE om om).trans om;rw[D]at F ar;clear D;have J:Cells wr [(⟨w,1,none⟩,.slice (some ⟨b,d,none⟩) xs.length cap),(⟨u,s+k,none⟩,i),(⟨b,d+j,none⟩,.int .u8 v)]:=⟨c1,L,F,zT⟩;obtain⟨ak,aq⟩:=zh2 ab N;clear ab N V;go_wp2;refine zvL 12 0 [(U,0,10),(zvE,10,1),(U,11,1)] (Keeps wr [(⟨w,1,none⟩,.slice (some ⟨b,d,none⟩) xs.length cap),(⟨u,s+k,none⟩,i),(⟨b,d+j,none⟩,.int .u8 v)]) (Keeps.start J) fun Y Q4 F4 hY T=> ?_;repeat refine mrd ?_
   refine mcl ?_;refine mck (Keeps.start J) (HM.out _) fun w5 ay E=> ?_;repeat refine mrd ?_
   refine mdn T fun K X=> ?_;clear T hY;refine mok X ?_;clear X;have Z:=zA m E.1;have ah:=zA R Z;have au:w5.cell? ⟨u,s+k,none⟩=some (.int .i64 (i:Int)):=E.2.2.1;by_cases y:(v==(f:Int))=true
   ·have aj:ac=(i:Int):=by rw[←H.out,aq.out y];rfl
    go_wp2;go_returns;exact⟨by rw[aj];rfl,ah⟩
   ·have al:=zC (ak.out.trans (zG y));rw[Bool.not_eq_true]at y;go_wp2;go_roundw
    case rel=>exact⟨k+1,by omega,by simp,al.out,Z⟩
    case measure=>simp[intOf];omega
  ·obtain rfl:k=l.length:=by omega
   have g:=r.out;rw[zaD]at g;have ag:ac = -1:=by rw[←H.out,g];rfl
   go_wp2;go_returns;exact⟨by rw[ag];rfl,ad⟩
end Go.Proofs.YthhgkafloejjiaaGreat
namespace Go.Proofs.YthhgkafloejjiaaGreat
open Go.RowKit
theorem zjW(c:Int)(xs:List Int)(a:Option Addr)(cap:Nat)(w:World)(M:1≤xs.length)(X:xs.length≤2162688)(L:Rd w a (Bts xs)) :
 Calls Tryz.prog 88 #[zcK c xs a cap] w fun e x=>∃b z,e = .returned (zcK c xs (some ⟨b,0,none⟩) z)∧OB x w.heap.size b z xs∧Below w w x:=by
 unfold zcK;go_enter Tryz.func88,Tryz.ntmps88;go_wp2;obtain⟨d,l,n,_,_⟩:=al2 w [c,.slice a xs.length cap] [.int .i64 0,.slice none 0 0] 40 40;have F:Below w w d:=by rw[←l];go_grown
 have s:Blk d (w.heap.size+1) [.int .i64 0,.slice none 0 0] 40:=by
  have h:=Blk.new (w.alloc (Obj.cells #[c,.slice a xs.length cap] 40)) [.int .i64 0,.slice none 0 0] 40;rw[←l];simpa using h
 rw[l];have S:w.heap.size+1<d.heap.size:=s.lt;clear l;have r:Cells d [(⟨w,0,none⟩,c),(⟨w,1,none⟩,.slice a xs.length cap)]:=⟨n.cell 0,n.cell 1,zT⟩;refine zvL 7 1 [(U,0,5),(zvE,5,1),(U,6,1)] (Keeps d [(⟨w,0,none⟩,c),(⟨w,1,none⟩,.slice a xs.length cap)]) (Keeps.start r) fun Y R V hY u=> ?_;repeat refine mrd ?_
 refine znG (.tmp 6) (.tmp 8) 38 5 1 1 _ d.heap.size zeL (.slice none 0 0) 0 [] a xs.length cap (Bts xs) (by rw[hY];rfl) rfl rfl rfl (by rw[zaC];omega)
  (zvC _) by5 om (World.ownsRow_nil _ _ _ _) ((L.step F).step (Keeps.start r).1) (zF _) ?_
 intro T i q o J;simp only[yE,lna]at o⊢;have m:Below d d q:=Below.grown (B:=d.heap.size) (Keeps.start r).1 J (zF _) (fun j e=>by cases e);obtain⟨k,rfl,Q,C⟩:=OB.of_owns (base':=w.heap.size) o M om
 have O:Keeps d [(⟨w,0,none⟩,c),(⟨w,1,none⟩,.slice a xs.length cap)] q:=⟨m,by
  have E:=n.step m;exact⟨E.cell 0,E.cell 1,zT⟩⟩
 refine⟨O,?_⟩;simp only[zvF];repeat refine mrd ?_
 refine mdn u fun K y=> ?_;clear u hY;have f:=s.step m;have H:=f.cell 0;have G:=f.cell 1;have P:=f.free 0;have W:=f.free 1;have g:=(f.set 0 (.int .i64 c)).set 1 (.slice (some ⟨k,0,none⟩) xs.length i);have D:=g.cell 0;have A:=g.cell 1;simp only[sC0,sCs,lgz,lgs]at D A H G;have t:=(C.other (w.heap.size+1) 0 (.int .i64 c) om).other (w.heap.size+1) 1 (.slice (some ⟨k,0,none⟩) xs.length i) om;have I:Below w w ((q.setCell ⟨w.heap.size+1,0,none⟩ (.int .i64 c)).setCell ⟨w.heap.size+1,1,none⟩ (.slice (some ⟨k,0,none⟩) xs.length i)):=((zA F m).setCell (p:=⟨w.heap.size+1,0,none⟩) by1 _).setCell (p:=⟨w.heap.size+1,1,none⟩) by1 _;have N:=zC t;clear C t f g o;go_wp2_with fail;refine mok y ?_;clear y;go_wp2;exact bodyPost_ret (v:=.agg #[c,.slice (some ⟨k,0,none⟩) xs.length i]) (by simp[results,Tryz.results88,go_sem,D,A]) rfl ⟨k,i,rfl,N.out,I⟩
theorem rprio10_any(n:Nat)(xs:List Int)(k:Nat)(A:n≤16)(m:xs.length=16*2^n)(y:k<2^n)(a:Option Addr)(cap:Nat)(w:World)(d:Tab xs a cap w) :
 Calls Tryz.prog 97 #[zcK (n:Int) xs a cap,k] w fun e q=>e = .returned (.int .i64 (S10.prio xs k))∧Below w w q:=by
 have z:=zaX A;obtain⟨b,h,rfl,t⟩:=d.rd (fun e=>by have l:=yG List.length e;rw[zaC,m]at l;simp only[List.length_nil]at l;omega);have f:16*k+1<xs.length:=by omega
 have c:=t (16*k+1) _ (Bts_ix f);have B:0≤xs.getD (16*k+1) 0∧xs.getD (16*k+1) 0<256:=by
  rw[zK,zD f];exact d.ok _ (yR f)
 unfold S10.prio;obtain⟨v,i⟩:=zvJ (xs.getD (16*k+1) 0);rw[i]at c B⊢;have j:=zC fun V=>zmB v V;obtain⟨r,g⟩:=zvJ ((if S09.found v then S09.hz v+S09.ho v else -1));rw[g]at j⊢;have u:=zE c;simp only at u;have s:wrap64 v=v:=IntWalk.wrap64_in _ ⟨by omega,by omega⟩;have E:=d.cap;have C:xs.length≤1048576:=by omega
 unfold zcK;clear m z y g i d;have D:(w.alloc (Obj.cells #[n,.slice (some ⟨b,h,none⟩) xs.length cap] 40)).cell? ⟨b,h+(16*k+1),none⟩=some (.int .u8 v):=(((zJ w.heap.size w).alloc (zF _) _).cell (zE c)).trans c;go_enter Tryz.func97,Tryz.ntmps97;go_wp2_with fail;(try rw[s]);refine(j.out _).mono ?_;rintro e x ⟨rfl,o⟩;have p:Below w w x:=zA ((zJ _ w).alloc (zF _) _) o;exact mf1 p
theorem zhA(m:Nat)(xs:List Int)(n k:Int)(q:m≤16)(a:Option Addr)(cap:Nat)(w:World) :
 Calls Tryz.prog 87 #[zcK (m:Int) xs a cap,n,k] w fun e i=>e = .returned (.bool (S10.exists (m:Int) n k))∧Below w w i:=by
 have j:=zC fun W=>zbW m om W;have e:(2:Int)^m=((2^m:Nat):Int):=by simp
 have g:S10.exists (m:Int) n k=(decide (0≤n∧n<((2^m:Nat):Int))&&decide (1≤k∧k≤15)):=by unfold S10.exists;rw[Int.toNat_natCast,e]
 rw[g];unfold zcK;generalize 2^m=M at *;clear e g;by_cases h:0≤n
 ·have f:decide (0≤n∧n<(M:Int))=decide (n<(M:Int)):=by simp[h]
  rw[f];go_enter Tryz.func87,Tryz.ntmps87;go_wp2_with fail;refine mnx w (j.out _) fun o l d p=> ?_;by_cases b:n<(M:Int)
  ·by_cases c:1≤k
   ·go_wp2;go_returns;exact⟨by first|(simp[b,c];done)|(simp[b,c];omega),d⟩
   ·go_wp2;go_returns;exact⟨by first|(simp[b,c];done)|(simp[b,c];omega),d⟩
  ·go_wp2;go_returns;exact⟨by first|(simp[b];done)|(simp[b];omega),d⟩
 ·have f:decide (0≤n∧n<(M:Int))=false:=by simp[h]
  rw[f];go_enter Tryz.func87,Tryz.ntmps87;go_wp2;go_returns;exact⟨by simp,by go_grown⟩
end Go.Proofs.YthhgkafloejjiaaGreat
namespace Go.Proofs.YthhgkafloejjiaaGreat
open Go.RowKit
theorem rget10_any(d:Int)(xs:List Int)(n k:Int)(a:Option Addr)(cap:Nat)(w:World)(r:Tab xs a cap w) :
 Calls Tryz.prog 83 #[zcK d xs a cap,n,k] w fun e R=>e = .returned (.tuple #[(S10.getN d xs n k),(S10.node d xs n k)])∧Below w w R:=by
 have s:=zC fun W (h:Tab xs a cap W)=>zcX d xs a cap W h;by_cases f:S10.check d xs=0
 ·obtain⟨m,rfl,G,F,K⟩:=S10.correct f;have y:=zC fun W=>zhA m xs n k G a cap W;have z:S10.node (m:Int) xs n k=if S10.exists (m:Int) n k then 0 else 2:=zQ f
  rw[f]at s;by_cases g:S10.exists (m:Int) n k=true
  ·have c:S10.node (m:Int) xs n k=0:=by rw[z,g];rfl
   have j:S10.getN (m:Int) xs n k=xs.getD (16*n.toNat+k.toNat) 0:=zQ c;rw[j,c];rw[g]at y;obtain⟨o,l,rfl,rfl,X,ad,ac⟩:=S10.exists_at g;have V:=zaX G;obtain⟨b,t,rfl,U⟩:=r.rd (fun e=>by have M:=yG List.length e;rw[zaC,F]at M;simp only[List.length_nil]at M;omega);have D:16*o+l<xs.length:=by omega
   have ae:=r.cap;have aa:xs.length≤1048576:=by omega
   have A:=U (16*o+l) _ (Bts_ix D);have Z:0≤xs.getD (16*o+l) 0∧xs.getD (16*o+l) 0<256:=by
    rw[zK,zD D];exact r.ok _ (yR D)
   simp only[Int.toNat_natCast];obtain⟨v,I⟩:=zvJ (xs.getD (16*o+l) 0);rw[I]at A Z⊢;have L:=zE A;simp only at L;have S:wrap64 v=v:=IntWalk.wrap64_in _ ⟨by omega,by omega⟩;unfold zcK at *;clear z j c f g F K V X I;go_enter Tryz.func83,Tryz.ntmps83;go_wp2_with fail;refine mnx w (s.out _ (r.step zo)) fun i x B J=> ?_;have q:Blk i w [m,.slice (some ⟨b,t,none⟩) xs.length cap] 40:=(Blk.new w _ _).step x;have Q:i.cell? ⟨w,0,none⟩=some (.int .i64 (m:Int)):=q.cell 0;have T:i.cell? ⟨w,1,none⟩=some (.slice (some ⟨b,t,none⟩) xs.length cap):=q.cell 1;go_wp2_with fail;refine mnx w (y.out _) fun E H u Y=> ?_;have O:=q.step H;have k3:E.cell? ⟨w,1,none⟩=some (.slice (some ⟨b,t,none⟩) xs.length cap):=O.cell 1;have ab:E.cell? ⟨b,t+(16*o+l),none⟩=some (.int .u8 v):=(u.cell (p:=⟨b,t+(16*o+l),none⟩) L).trans A;go_wp2;go_returns;first|exact⟨rfl,u⟩|(refine⟨?_,u⟩;simp[S])
  ·have c:S10.node (m:Int) xs n k=2:=by rw[z,zG g]
   have j:S10.getN (m:Int) xs n k=0:=zG (by rw[c];decide);rw[j,c];rw[Bool.not_eq_true]at g;rw[g]at y;unfold zcK at *;clear z j c f g F K;go_enter Tryz.func83,Tryz.ntmps83;go_wp2_with fail;refine mnx w (s.out _ (r.step zo)) fun i x B J=> ?_;have q:Blk i w [m,.slice a xs.length cap] 40:=(Blk.new w _ _).step x;have Q:i.cell? ⟨w,0,none⟩=some (.int .i64 (m:Int)):=q.cell 0;have T:i.cell? ⟨w,1,none⟩=some (.slice a xs.length cap):=q.cell 1;go_wp2_with fail;refine mnx w (y.out _) fun E H u Y=> ?_;exact mf1 u
 ·have c:S10.node d xs n k=S10.check d xs:=zG f;have j:S10.getN d xs n k=0:=zG (by rw[c];exact f);rw[j,c];have P:(S10.check d xs != 0)=true:=by simpa using f
  obtain⟨C,N⟩:=zvJ (S10.check d xs);rw[N]at P s⊢;unfold zcK at *;clear f j c N;go_enter Tryz.func83,Tryz.ntmps83;go_wp2_with fail;refine mnx w (s.out _ (r.step zo)) fun i x B J=> ?_;exact mf1 B
end Go.Proofs.YthhgkafloejjiaaGreat
namespace Go.Proofs.YthhgkafloejjiaaGreat
open Go.RowKit
theorem rset10_bad(c:Int)(xs:List Int)(n k d:Int)(a:Option Addr)(cap:Nat)(w:World)(I:Tab xs a cap w)(D:¬S10.setE c xs n k d=0) :
 Calls Tryz.prog 44 #[zcK c xs a cap,n,k,d] w fun e S=>e = .returned (.tuple #[.agg #[.int .i64 0,.slice none 0 0],(S10.setE c xs n k d)])∧Below w w S:=by
 have z:=zC fun W (h:Tab xs a cap W)=>zcX c xs a cap W h;by_cases l:S10.check c xs=0
 ·obtain⟨m,rfl,P,N,L⟩:=S10.correct l;have B:=zC fun W=>zhA m xs n k P a cap W;have E:S10.node (m:Int) xs n k=if S10.exists (m:Int) n k then 0 else 2:=zQ l
  rw[l]at z;by_cases r:S10.exists (m:Int) n k=true
  ·have j:S10.node (m:Int) xs n k=0:=by rw[E,r];rfl
   have o:S10.setE (m:Int) xs n k d=if 0≤d∧d≤214 then 0 else 1:=zQ j
   have V:¬(0≤d∧d≤214):=fun h=>D (by rw[o,zQ h]);rw[o,zG V];rw[r]at B;unfold zcK at *;clear E o j l r N L D;go_enter Tryz.func44,Tryz.ntmps44;go_wp2_with fail;refine mnx w (z.out _ (I.step zo)) fun u q F K=> ?_;have y:Blk u w [m,.slice a xs.length cap] 40:=((Blk.new w _ _).alloc _).step q;have x:Blk u (w.heap.size+1) [.int .i64 0,.slice none 0 0] 40:=by
    have h:=(Blk.new (w.alloc (.cells #[m,.slice a xs.length cap] 40)) [.int .i64 0,.slice none 0 0] 40).step q;rwa[zY]at h
   obtain⟨Q,T⟩:=y.c2;go_wp2_with fail;refine mnx w (B.out _) fun U A H X=> ?_;by_cases ab:d<0
   ·have b:=x.step A;have t:=b.cell 0;have s:=b.cell 1;have G:=b.free 0;have J:=b.free 1;have g:=(b.set 0 (.int .i64 0)).set 1 (.slice none 0 0);have i:=g.cell 0;have f:=g.cell 1;simp only[sC0,sCs,lgz,lgs]at i f t s;clear y x b g;go_wp2;exact bodyPost_ret (v:=.tuple #[.agg #[.int .i64 0,.slice none 0 0],.int .i64 1]) (by simp[results,Tryz.results44,go_sem,i,f]) rfl ⟨rfl,(H.setCell (p:=⟨w.heap.size+1,0,none⟩) by1 _).setCell (p:=⟨w.heap.size+1,1,none⟩) by1 _⟩
   ·have aa:215≤d:=by omega
    go_wp2_with fail;refine mnx w (zgM _) fun w3 R Y Z=> ?_;have b:=(x.step A).step R;have t:=b.cell 0;have s:=b.cell 1;have G:=b.free 0;have J:=b.free 1;have g:=(b.set 0 (.int .i64 0)).set 1 (.slice none 0 0);have i:=g.cell 0;have f:=g.cell 1;simp only[sC0,sCs,lgz,lgs]at i f t s;clear y x b g;go_wp2;exact bodyPost_ret (v:=.tuple #[.agg #[.int .i64 0,.slice none 0 0],.int .i64 1]) (by simp[results,Tryz.results44,go_sem,i,f]) rfl ⟨rfl,(Y.setCell (p:=⟨w.heap.size+1,0,none⟩) by1 _).setCell (p:=⟨w.heap.size+1,1,none⟩) by1 _⟩
  ·have j:S10.node (m:Int) xs n k=2:=by rw[E,zG r]
   have o:S10.setE (m:Int) xs n k d=2:=(zG (by rw[j];decide)).trans j;rw[o];rw[Bool.not_eq_true]at r;rw[r]at B;unfold zcK at *;clear E o j D r N L l;go_enter Tryz.func44,Tryz.ntmps44;go_wp2_with fail;refine mnx w (z.out _ (I.step zo)) fun u q F K=> ?_;have y:Blk u w [m,.slice a xs.length cap] 40:=((Blk.new w _ _).alloc _).step q;have x:Blk u (w.heap.size+1) [.int .i64 0,.slice none 0 0] 40:=by
    have h:=(Blk.new (w.alloc (.cells #[m,.slice a xs.length cap] 40)) [.int .i64 0,.slice none 0 0] 40).step q;rwa[zY]at h
   obtain⟨Q,T⟩:=y.c2;go_wp2_with fail;refine mnx w (B.out _) fun U A H X=> ?_;have b:=x.step A;have t:=b.cell 0;have s:=b.cell 1;have G:=b.free 0;have J:=b.free 1;have g:=(b.set 0 (.int .i64 0)).set 1 (.slice none 0 0);have i:=g.cell 0;have f:=g.cell 1;simp only[sC0,sCs,lgz,lgs]at i f t s;clear y x b g;go_wp2;exact bodyPost_ret (v:=.tuple #[.agg #[.int .i64 0,.slice none 0 0],.int .i64 2]) (by simp[results,Tryz.results44,go_sem,i,f]) rfl ⟨rfl,(H.setCell (p:=⟨w.heap.size+1,0,none⟩) by1 _).setCell (p:=⟨w.heap.size+1,1,none⟩) by1 _⟩
 ·have j:S10.node c xs n k=S10.check c xs:=zG l;have o:S10.setE c xs n k d=S10.check c xs:=(zG (by rw[j];exact l)).trans j;rw[o];have O:(S10.check c xs != 0)=true:=by simpa using l
  obtain⟨C,M⟩:=zvJ (S10.check c xs);rw[M]at O z⊢;unfold zcK at *;clear D o j M l;go_enter Tryz.func44,Tryz.ntmps44;go_wp2_with fail;refine mnx w (z.out _ (I.step zo)) fun u q F K=> ?_;have b:Blk u (w.heap.size+1) [.int .i64 0,.slice none 0 0] 40:=by
   have h:=(Blk.new (w.alloc (.cells #[c,.slice a xs.length cap] 40)) [.int .i64 0,.slice none 0 0] 40).step q;rwa[zY]at h
  have t:=b.cell 0;have s:=b.cell 1;have G:=b.free 0;have J:=b.free 1;have g:=(b.set 0 (.int .i64 0)).set 1 (.slice none 0 0);have i:=g.cell 0;have f:=g.cell 1;simp only[sC0,sCs,lgz,lgs]at i f t s;clear b g;go_wp2;exact bodyPost_ret (v:=.tuple #[.agg #[.int .i64 0,.slice none 0 0],C]) (by simp[results,Tryz.results44,go_sem,i,f]) rfl ⟨rfl,(F.setCell (p:=⟨w.heap.size+1,0,none⟩) by1 _).setCell (p:=⟨w.heap.size+1,1,none⟩) by1 _⟩
theorem rset10_ok(m n k:Nat)(xs:List Int)(d:Int)(t:m≤16)(hl:xs.length=16*2^m)(hn:n<2^m)(hk:k≤15)(hst:0≤d∧d≤214)(a:Option Addr)(cap:Nat)(w:World)(H:Tab xs a cap w)
 (J:S10.check (m:Int) xs=0) (L:S10.exists (m:Int) (n:Int) (k:Int)=true) :
 Calls Tryz.prog 44 #[zcK (m:Int) xs a cap,n,k,d] w fun e z=>∃b c,e = .returned (.tuple #[zcK (m:Int) xs (some ⟨b,0,none⟩) c,.int .i64 0])∧OB z w.heap.size b c (xs.set (16*n+k) d)∧Below w w z:=by
 have u:=zC fun W (h:Tab xs a cap W)=>zcX (m:Int) xs a cap W h;rw[J]at u;have A:=zC fun W=>zhA m xs n k t a cap W;rw[L]at A;have aa:=zaX t;have Z:=zC fun W (h:Rd W a (Bts xs))=>zjW (m:Int) xs a cap W om om h;have y:16*n+k<xs.length:=by omega
 obtain⟨U,ab⟩:=zh2 y (show xs.length≤1048576 by omega);have ae:d%256=d:=by omega
 have b1:¬(d<0):=by omega
 have b2:¬(215≤d):=by omega
 unfold zcK at *;clear J L hl aa y hn hst;go_enter Tryz.func44,Tryz.ntmps44;go_wp2_with fail;refine mnx w (u.out _ (H.step zo)) fun C r ac z1=> ?_;have o:Blk C w [m,.slice a xs.length cap] 40:=((Blk.new w _ _).alloc _).step r;have D:Blk C (w.heap.size+1) [.int .i64 0,.slice none 0 0] 40:=by
  have h:=(Blk.new (w.alloc (.cells #[m,.slice a xs.length cap] 40)) [.int .i64 0,.slice none 0 0] 40).step r;rwa[zY]at h
 obtain⟨O,V⟩:=o.c2;go_wp2_with fail;refine mnx w (A.out _) fun w2 s ad z2=> ?_;go_wp2_with fail;refine mnx w (zgM _) fun X x i z3=> ?_;have B:=(o.step s).step x;have j:=(D.step s).step x;obtain⟨T,S⟩:=B.c2;go_wp2_with fail;refine(Z.out _ (H.rd.step i)).mono ?_;rintro e l ⟨b,c,rfl,f,E⟩;have Y:=zA i E;have g:=j.step E;have l2:=j.lt;have af:=g.lt;have z4:X.heap.size≤b:=f.1;have l4:=f.lt;have ah:xs.length≤c:=f.2.1;have R:=U.out;have ag:=ab.out;have p0:l.cell? ⟨b,16*n+k,none⟩=some (.int .u8 (xs.getD (16*n+k) 0)):=f.at R;have p1:l.frozen? ⟨b,16*n+k,none⟩=false:=f.free _;have Q:=g.cell 0;have M:=g.cell 1;have f0:=g.free 0;have f1:=g.free 1;simp only[zvH]at Q M;have n1:¬b=l.heap.size:=by omega
 have n2:¬b=w.heap.size+1:=by omega
 have K:=(((((f.set (16*n+k) d).mono (base':=w.heap.size) (by have:=i.size;omega)).other (w.heap.size+1) 0 (.int .i64 (m:Int)) om).other (w.heap.size+1) 1 (.slice (some ⟨b,0,none⟩) xs.length c) om)).step ((zJ _ _).alloc (zF _) (Obj.cells #[m,.slice (some ⟨b,0,none⟩) xs.length c] 40));have P:=zC K;have q:=(((g.other b (16*n+k) (.int .u8 d) om).set 0 (.int .i64 (m:Int))).set 1 (.slice (some ⟨b,0,none⟩) xs.length c)).alloc (Obj.cells #[m,.slice (some ⟨b,0,none⟩) xs.length c] 40);have G:=q.cell 0;have F:=q.cell 1;simp only[sC0,sCs,lgz,lgs]at G F;have zB:=i.size;have I:=((((Y.setCell (p:=⟨b,16*n+k,none⟩) (by show w.heap.size≤b;omega) (.int .u8 d)).setCell (p:=⟨w.heap.size+1,0,none⟩) by1 (.int .i64 (m:Int))).setCell (p:=⟨w.heap.size+1,1,none⟩) by1 (.slice (some ⟨b,0,none⟩) xs.length c)).alloc by7 (Obj.cells #[m,.slice (some ⟨b,0,none⟩) xs.length c] 40));have N:=zC I;clear o D B j O V T S f K q I g;go_wp2;exact bodyPost_ret (v:=.tuple #[.agg #[m,.slice (some ⟨b,0,none⟩) xs.length c],.int .i64 0]) (by simp[results,Tryz.results44,go_sem,G,F]) rfl ⟨b,c,rfl,P.out,N.out⟩
theorem rset10_any(f:Int)(xs:List Int)(n k c:Int)(a:Option Addr)(cap:Nat)(w:World)(o:Tab xs a cap w) :
 Calls Tryz.prog 44 #[zcK f xs a cap,n,k,c] w fun e g=>∃V,e = .returned (.tuple #[V,(S10.setE f xs n k c)])∧TO g w.heap.size (S10.setB f xs n k c) (S10.setX f xs n k c) V∧Below w w g:=by
 by_cases d:S10.setE f xs n k c=0
 ·have l:S10.node f xs n k=0:=by
   unfold S10.setE at d;split at d
   ·assumption
   ·exact d
  have y:0≤c∧c≤214:=by
   unfold S10.setE at d;rw[zQ l]at d;split at d
   ·assumption
   ·cases d
  have j:S10.setB f xs n k c=f:=zQ d;have i:S10.setX f xs n k c=xs.set (16*n.toNat+k.toNat) c:=zQ d;rw[d,j,i];obtain⟨p,q⟩:=S10.node_zero l;obtain⟨m,rfl,r,z,C⟩:=S10.correct p;obtain⟨u,t,rfl,rfl,A,B,s⟩:=S10.exists_at q;refine(rset10_ok m u t xs c r z A s y a cap w o p q).mono ?_;rintro e g ⟨b,v,rfl,x,h⟩;refine⟨_,rfl,.inr ⟨b,v,?_,x⟩,h⟩;unfold zcK;rw[yH]
 ·have j:S10.setB f xs n k c=0:=zG d;have i:S10.setX f xs n k c = []:=zG d;rw[j,i];refine(rset10_bad f xs n k c a cap w o d).mono ?_;rintro e g ⟨rfl,h⟩;exact⟨_,rfl,TO.nil _ _,h⟩
end Go.Proofs.YthhgkafloejjiaaGreat
namespace Go.Proofs.YthhgkafloejjiaaGreat
open Go.RowKit
theorem zqX(xs:List Int)(i j:Nat)(v:Int):(xs.set i v).getD j 0=if i=j∧i<xs.length then v else xs.getD j 0:=by
 rw[zK,zK,List.getElem?_set];by_cases h:i=j
 ·subst h;by_cases a:i<xs.length
  ·simp[a]
  ·simp[a]
 ·simp[h]
theorem zoD:∀(b:List Int) (i:Nat) (a:List Int) (j:Nat),(S10.setMany a i b).getD j 0=if i≤j∧j<i+b.length∧j<a.length then b.getD (j-i) 0 else a.getD j 0
 | [],i,a,j=>by
   show a.getD j 0=_;rw[zG by7]
 | y::b,i,a,j=>by
   show(S10.setMany (a.set i y) (i+1) b).getD j 0=_;rw[zoD b (i+1) (a.set i y) j,zqX,yH];simp only[zbL];by_cases d:i=j
   ·subst d;rw[zG om];by_cases c:i<a.length
    ·rw[zQ ⟨rfl,c⟩,zQ ⟨zF _,by omega,c⟩];simp
    ·rw[zG om,zG om]
   ·by_cases c:i+1≤j∧j<i+1+b.length∧j<a.length
    ·rw[zQ c,zQ om];have e:j-i=(j-(i+1))+1:=by omega
     rw[e];rfl
    ·rw[zG c,zG om,zG om]
theorem getD_zeros(n j:Nat):(List.replicate n (0:Int)).getD j 0=0:=by
 rw[zK,List.getElem?_replicate];split<;>rfl
theorem fresh_len(xs:List Int)(n a:Nat):(S10.fresh xs n a).length=xs.length:=by unfold S10.fresh;rw[yH,zcU]
theorem fresh_getD{xs:List Int}{i:Nat}(b:Nat)(d:16*i+16≤xs.length)(j:Nat):(S10.fresh xs i b).getD j 0=if j=16*i then(b:Int)else if 16*i<j∧j<16*i+16 then 0 else xs.getD j 0:=by
 unfold S10.fresh;rw[zqX,zcU,zoD,getD_zeros,List.length_replicate];by_cases a:j=16*i
 ·subst a;rw[zQ ⟨rfl,by omega⟩,zQ rfl]
 ·rw[zG (fun h=>a h.1.symm),zG a];by_cases c:16*i<j∧j<16*i+16
  ·rw[zQ om,zQ c]
  ·rw[zG om,zG c]
structure Good(n:Nat)(xs:List Int):Prop where
 le:n≤16
 len:xs.length=16*2^n
 ok:OK8 xs
 st:∀j,j<xs.length→j%16≠0→xs.getD j 0<215
theorem Good.check{n:Nat}{xs:List Int}(h:Good n xs):S10.check (n:Int) xs=0:=by
 have d:=h.le;rw[S10.check_form om (by rw[Int.toNat_natCast];exact h.len),Int.toNat_natCast,S10.bad_eq h.len];have c:S10.badP xs (16*2^n)=false:=by
  unfold S10.badP;rw[List.any_eq_false];intro j a;rw[List.mem_range,←h.len]at a;unfold S10.bad2;by_cases b:j%16=0
  ·simp[b]
  ·have:=h.st j a b;rw[zL (show¬(215≤xs.getD j 0) by omega)];simp
 rw[c];rfl
theorem Good.set{n:Nat}{xs:List Int}(h:Good n xs)(i:Nat)(v:Int)(c:0≤v∧v<256)(d:i%16≠0→v<215):Good n (xs.set i v):=by
 refine⟨h.le,by rw[yH];exact h.len,h.ok.set i v c,fun j a b=> ?_⟩;rw[yH]at a;rw[zqX];by_cases e:i=j∧i<xs.length
 ·rw[zQ e];exact d (by rw[e.1];exact b)
 ·rw[zG e];exact h.st j a b
theorem Good.fresh{n:Nat}{xs:List Int}(h:Good n xs){i:Nat}(f:i<2^n){a:Nat}(c:a<256):Good n (S10.fresh xs i a):=by
 have e:=h.len;refine⟨h.le,by rw[fresh_len];exact h.len,OK8.fresh h.ok i a c,fun j b d=> ?_⟩;rw[fresh_len]at b;rw[fresh_getD a om];rw[zG om];split
 ·decide
 ·exact h.st j b d
def S10.has(xs:List Int)(mk:Nat)(i:Nat):Bool:=xs.getD (16*i) 0==(mk:Int)
theorem S10.find_def(n:Nat)(xs:List Int)(h:Nat):S10.find n xs h=(S10.places n h).find? (S10.has xs (S10.mark h)):=rfl
theorem S10.find_some{n:Nat}{xs:List Int}{h i:Nat}(a:S10.find n xs h=some i):i∈S10.places n h∧xs.getD (16*i) 0=(S10.mark h:Int):=by
 rw[S10.find_def]at a;refine⟨List.mem_of_find?_eq_some a,?_⟩;have:=List.find?_some a;unfold S10.has at this;simpa using this
theorem S10.mem_places{n h i:Nat}(a:i∈S10.places n h):i<2^n:=S10.plc_lt a
section
variable {n:Nat} {xs:List Int} (hg:Good n xs) (h:Nat)
include hg
theorem Good.openN_mem:S10.openN (n:Int) xs h∈S10.places n h:=by
 have a:S10.openN (n:Int) xs h=((S10.find n xs h).getD ((S10.least xs (S10.places n h)).getD 0)):=by
  have:=hg.check;unfold S10.openN;rw[zQ this,Int.toNat_natCast]
 rw[a];obtain⟨i,c,_,b⟩:=S10.least_ok xs n h;rw[c];cases hf:S10.find n xs h with
 | none=>exact b
 | some j=>exact(S10.find_some hf).1
theorem Good.openN_lt:S10.openN (n:Int) xs h<2^n:=S10.mem_places (hg.openN_mem h)
theorem Good.openB:S10.openB (n:Int) xs=n:=zQ hg.check
theorem Good.openX_eq:S10.openX (n:Int) xs h=if(S10.find n xs h).isSome then xs else S10.fresh xs (S10.openN (n:Int) xs h) (S10.mark h):=by
 have:=hg.check;unfold S10.openX;rw[zQ this,Int.toNat_natCast]
theorem Good.openX(a:h<4294967296):Good n (S10.openX (n:Int) xs h):=by
 rw[hg.openX_eq h];split
 ·exact hg
 ·exact hg.fresh (hg.openN_lt h) (S10.mark_lt a)
end
end Go.Proofs.YthhgkafloejjiaaGreat
namespace Go.Proofs.YthhgkafloejjiaaGreat
open Go.RowKit
theorem S09.next_found0:S09.allStates (fun s=>S09.found (S09.next s 0))=true:=by decide +kernel
theorem S09.next_found1:S09.allStates (fun s=>S09.found (S09.next s 1))=true:=by decide +kernel
theorem S09.next_range{s:Int}(h:0≤s∧s<215){b:Nat}(d:b<2):0≤S09.next s b∧S09.next s b<215:=by
 obtain⟨n,rfl⟩:=Int.eq_ofNat_of_zero_le h.1;have c:=S09.allStates_spec S09.next_found0 (s:=n) om;have a:=S09.allStates_spec S09.next_found1 (s:=n) om;have e:b=0∨b=1:=by omega
 rcases e with rfl|rfl
 ·exact S09.found_bounds c
 ·exact S09.found_bounds a
theorem Good.exists{n:Nat}{xs:List Int}{i k:Nat}(b:i<2^n)(a:1≤k)(c:k≤15):S10.exists (n:Int) (i:Int) (k:Int)=true:=by
 unfold S10.exists;rw[Int.toNat_natCast];have e:(2:Int)^n=((2^n:Nat):Int):=by simp
 rw[e];simp only[zS,yC];omega
theorem Good.node{n:Nat}{xs:List Int}(a:Good n xs){i k:Nat}(c:i<2^n)(d:1≤k)(b:k≤15):S10.node (n:Int) xs (i:Int) (k:Int)=0:=by
 unfold S10.node;rw[zQ a.check,Good.exists (xs:=xs) c d b];rfl
theorem Good.setE{n:Nat}{xs:List Int}(c:Good n xs){i k:Nat}(d:i<2^n)(b:1≤k)(e:k≤15){a:Int}(f:0≤a∧a<215):S10.setE (n:Int) xs (i:Int) (k:Int) a=0:=by
 unfold S10.setE;rw[zQ (c.node d b e),zQ om]
theorem Good.setB{n:Nat}{xs:List Int}(c:Good n xs){i k:Nat}(d:i<2^n)(b:1≤k)(f:k≤15){a:Int}(e:0≤a∧a<215):S10.setB (n:Int) xs (i:Int) (k:Int) a=n:=by
 unfold S10.setB;rw[zQ (c.setE d b f e)]
theorem Good.setX{n:Nat}{xs:List Int}(c:Good n xs){i k:Nat}(d:i<2^n)(b:1≤k)(f:k≤15){a:Int}(e:0≤a∧a<215):S10.setX (n:Int) xs (i:Int) (k:Int) a=xs.set (16*i+k) a:=by
 unfold S10.setX;rw[zQ (c.setE d b f e),Int.toNat_natCast,Int.toNat_natCast]
theorem S09.nextS_ok{s:Int}(h:0≤s∧s<215){b:Nat}(c:b<2):S09.nextS s b=S09.next s b∧S09.nextE s b=0:=by
 have a:S09.found s=true:=zO h;have e:(b:Int)=0∨(b:Int)=1:=by omega
 unfold S09.nextS S09.nextE;rw[a,zQ rfl,zQ rfl,zQ e,zQ e];exact⟨rfl,rfl⟩
