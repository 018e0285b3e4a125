/- A part of the proof of L14l. No condition. -/
import Derived.Test.YthhgkafloejjiaaGreatZL14lbr
import Derived.Test.YthhgkafloejjiaaGreatZL14lbz
set_option linter.all false
set_option maxRecDepth 100000
set_option maxHeartbeats 4000000
namespace Go.Proofs.YthhgkafloejjiaaGreat
open Go.RowKit
theorem GoodN.ctrs{N:S14.N}{t:Nat}(h:GoodN N t):∀p∈N.parts,p.ctrs.length≤100000∧p.m.ctrs.length≤100000:=fun p q=>by
 obtain⟨k,d,rfl⟩:=List.getElem_of_mem q;have m:k<N.comps.length:=by rw[←h.len];exact d
 have j:N.comps[k]? = some N.comps[k]:=zD m;have l:=h.ps k _ _ j (zD d);have i:=S14.ok_is ((S14.check_zero h.check).2.2 k _ j);have e:=l.right;generalize N.comps[k]=c at *;generalize N.parts[k]=p at *;have r:=zjY (n:=c.bits.toNat) (by have:=i.bits;omega);rcases i.kind with d|d|d|d|d|d|d
 ·obtain⟨b,_,_,_,_,_,a⟩:=zbQ ((zcW (.inl d)).1 e);rw[b,a];decide
 ·obtain⟨f,g⟩:=(zdS d).1 e;obtain⟨_,_,_,_,_,_,a⟩:=zbQ f;have b:=(okCtrs_iff.1 g).1;have a:p.m.ctrs = []:=a;rw[b,a];exact⟨by omega,by decide⟩
 ·obtain⟨⟨⟨⟨g,_⟩,_⟩,_⟩,f⟩:=(zeH d).1 e;obtain⟨_,_,_,_,_,_,a⟩:=zbQ f;have b:=(okCtrs_iff.1 g).1;have a:p.m.ctrs = []:=a;rw[b,a];decide
 ·obtain⟨⟨⟨⟨f,_⟩,_⟩,_⟩,o⟩:=(zfP d).1 e;obtain⟨b,_⟩:=zbQ f;have b:p.ctrs = []:=b;have a:=((S12.check_iff p.m).1 o).ctrs;rw[b];exact⟨by decide,by omega⟩
 ·obtain⟨b,_,_,_,_,_,a⟩:=zbQ ((zcW (.inr d)).1 e);rw[b,a];decide
 ·obtain⟨b,_,_,_,_,_,a⟩:=zbQ ((zhZ d).1 e).1.1.1;have b:p.ctrs = []:=b;have a:p.m.ctrs = []:=a;rw[b,a];decide
 ·obtain⟨b,_,_,_,_,_,a⟩:=zbQ ((zdR d).1 e).1.1;have b:p.ctrs = []:=b;have a:p.m.ctrs = []:=a;rw[b,a];decide
def Gives14(f:FuncId)(args:Array Value)(M:S14.N)(e:Int)(W:World):Prop:=Calls Tryz.prog f args W fun r w'=>∃L,r = .returned (.tuple #[NV M L,e])∧(∀W',Below w'.heap.size w' W'→NIs M L W')∧Below W W w'
noncomputable def S14.lrnE(N:S14.N)(bit:Int):Int:=if S14.checkNet N≠0 then S14.checkNet N else if bit=0∨bit=1 then 0 else 1
theorem learn14_bad(N:S14.N)(L:NLay)(bit:Int)(w:World)(c:NIs N L w)(F:N.comps.length≤4611686018427387904)(J:∀p∈N.parts,p.ctrs.length≤9223372036854775807)(v:S14.lrnE N bit≠0) :
 Calls Tryz.prog 6 #[NV N L,bit] w fun e y=>e = .returned (.tuple #[NV S14.N0 NLay0,(S14.lrnE N bit)])∧Below w w y:=by
 have M:=c;unfold S14.lrnE at v⊢;by_cases b:S14.checkNet N=0
 ·rw[zG (by simp[b])]at v⊢;have H:¬(bit=0∨bit=1):=fun h=>v (zQ h);rw[zG H];have l:=zC (show∀(W:World),Below w w W→Calls Tryz.prog 13 #[NV N L] W fun e y=>∃a x,e = .returned (.tuple #[.slice a N.comps.length x,.int .i64 0])∧Below W W y from fun W k=>(zeB N L (S14.outA N) W (c.step k) (zpV N L W (c.step k)) b (zqG N L W (c.step k) b)).mono fun e y ⟨a,x,U,_,_,_,Q⟩=>⟨a,x,U,Q⟩);have K:=zC fun W=>zaR bit 0 1 W;have I:S14.has bit 0 1=false:=by unfold S14.has;simp;omega
  rw[I]at K;clear I b H;unfold NV zaN at *;obtain⟨E,C,B,A,o,m,q,n⟩:=zz4 N.comps.length N.parts.length N.ctxs.length N.part;simp only[o,m,q,n]at l⊢;clear c M J F o m q n v;obtain⟨P,r,u,t,f⟩:=al2 w [.slice L.a1 E L.c1,.slice L.a2 C L.c2,.slice L.a3 B L.c3,A] [.slice none 0 0,.slice none 0 0,.slice none 0 0,.int .i64 0] 26 26;have z:=zC fun(j:World) (i:Blk j (w.heap.size+1) [.slice none 0 0,.slice none 0 0,.slice none 0 0,.int .i64 0] 26)=>lv26 i;go_enter Tryz.func6,Tryz.ntmps6;go_wp2_with (first
   | (rw[r])
   | (refine ld26 (.tmp 2) u ?_))
  refine(l.out _ f).mono ?_;rintro e S ⟨a,x,rfl,d⟩;have s:=t.step d;have g:=zA f d;clear u t r f d;go_wp2_with fail;refine(K.out _).mono ?_;rintro e X ⟨rfl,O⟩;have s:=s.step O;have g:=zA g O;go_wp2_with (first
   | (refine st26 (.tmp 4) (.tmp 25) [.slice none 0 0,.slice none 0 0,.slice none 0 0,.int .i64 0] s ?_;intro j i D R))
  refine rL2 (z.out j i) ?_;exact⟨rfl,g.trans (yA D om g.size)⟩
 ·rw[zQ b];have l:=zC fun(W:World) (k:Below w w W)=>zrZ N L W (c.step k) F (zpV N L W (c.step k)) b;obtain⟨T,G⟩:=zvJ (S14.checkNet N);rw[G]at l b⊢;have V:((T:Int) != 0)=true:=by simpa using b
  clear b G;unfold NV zaN at *;obtain⟨E,C,B,A,o,m,q,n⟩:=zz4 N.comps.length N.parts.length N.ctxs.length N.part;simp only[o,m,q,n]at l⊢;clear c M J F o m q n v;obtain⟨P,r,u,t,f⟩:=al2 w [.slice L.a1 E L.c1,.slice L.a2 C L.c2,.slice L.a3 B L.c3,A] [.slice none 0 0,.slice none 0 0,.slice none 0 0,.int .i64 0] 26 26;have z:=zC fun(j:World) (i:Blk j (w.heap.size+1) [.slice none 0 0,.slice none 0 0,.slice none 0 0,.int .i64 0] 26)=>lv26 i;go_enter Tryz.func6,Tryz.ntmps6;go_wp2_with (first
   | (rw[r])
   | (refine ld26 (.tmp 2) u ?_))
  refine(l.out _ f).mono ?_;rintro e S ⟨rfl,d⟩;have s:=t.step d;have g:=zA f d;clear u t r f d;go_wp2_with (first
   | (refine st26 (.tmp 4) (.tmp 20) [.slice none 0 0,.slice none 0 0,.slice none 0 0,.int .i64 0] s ?_;intro j i D R))
  refine rL2 (z.out j i) ?_;exact⟨rfl,g.trans (yA D om g.size)⟩
theorem rLearn14_bad(N:S14.N)(L:NLay)(bit:Int)(w:World)(n:NIs N L w)(u:N.comps.length≤4611686018427387904)(t:∀p∈N.parts,p.ctrs.length≤9223372036854775807)(s:S14.lrnE N bit≠0) :
 Calls Tryz.prog 7 #[NV N L,bit] w fun e J=>e = .returned (.tuple #[NV S14.N0 NLay0,(S14.lrnE N bit)])∧Below w w J:=by
 have G:=n;unfold S14.lrnE at s⊢;by_cases b:S14.checkNet N=0
 ·rw[zG (by simp[b])]at s⊢;have F:¬(bit=0∨bit=1):=fun h=>s (zQ h);rw[zG F];have f:=zC fun(W:World) (A:Below w w W)=>zfQ N L W (n.step A) u t;rw[b]at f;have Q:(bit != 0)=true:=by simp;omega
  have O:(bit != 1)=true:=by simp;omega
  clear b F;unfold NV zaN at *;obtain⟨D,z,y,x,l,i,m,j⟩:=zz4 N.comps.length N.parts.length N.ctxs.length N.part;simp only[l,i,m,j]at f⊢;clear n G t u l i m j s;obtain⟨H,o,r,q,c⟩:=al2 w [.slice L.a1 D L.c1,.slice L.a2 z L.c2,.slice L.a3 y L.c3,x] [.slice none 0 0,.slice none 0 0,.slice none 0 0,.int .i64 0] 26 26;have v:=zC fun(g:World) (d:Blk g (w.heap.size+1) [.slice none 0 0,.slice none 0 0,.slice none 0 0,.int .i64 0] 26)=>lv26 d;go_enter Tryz.func7,Tryz.ntmps7;go_wp2_with (first
   | (rw[o])
   | (refine ld26 (.tmp 2) r ?_))
  refine(f.out _ c).mono ?_;rintro e K ⟨rfl,a⟩;have C:=q.step a;have k:=zA c a;clear r q o c a;go_wp2_with (first
   | (refine st26 (.tmp 4) (.tmp 24) [.slice none 0 0,.slice none 0 0,.slice none 0 0,.int .i64 0] C ?_;intro g d B I))
  refine rL2 (v.out g d) ?_;exact⟨rfl,k.trans (yA B om k.size)⟩
 ·rw[zQ b];have f:=zC fun(W:World) (A:Below w w W)=>zfQ N L W (n.step A) u t;obtain⟨M,E⟩:=zvJ (S14.checkNet N);rw[E]at f b⊢;have P:((M:Int) != 0)=true:=by simpa using b
  clear b E;unfold NV zaN at *;obtain⟨D,z,y,x,l,i,m,j⟩:=zz4 N.comps.length N.parts.length N.ctxs.length N.part;simp only[l,i,m,j]at f⊢;clear n G t u l i m j s;obtain⟨H,o,r,q,c⟩:=al2 w [.slice L.a1 D L.c1,.slice L.a2 z L.c2,.slice L.a3 y L.c3,x] [.slice none 0 0,.slice none 0 0,.slice none 0 0,.int .i64 0] 26 26;have v:=zC fun(g:World) (d:Blk g (w.heap.size+1) [.slice none 0 0,.slice none 0 0,.slice none 0 0,.int .i64 0] 26)=>lv26 d;go_enter Tryz.func7,Tryz.ntmps7;go_wp2_with (first
   | (rw[o])
   | (refine ld26 (.tmp 2) r ?_))
  refine(f.out _ c).mono ?_;rintro e K ⟨rfl,a⟩;have C:=q.step a;have k:=zA c a;clear r q o c a;go_wp2_with (first
   | (refine st26 (.tmp 4) (.tmp 16) [.slice none 0 0,.slice none 0 0,.slice none 0 0,.int .i64 0] C ?_;intro g d B I))
  refine rL2 (v.out g d) ?_;exact⟨rfl,k.trans (yA B om k.size)⟩
theorem learns14(N:S14.N)(bit:Int)(u:N.comps.length≤40)(m:∀p∈N.parts,p.ctrs.length≤9223372036854775807)(s:S14.checkNet N=0→GoodN N 200) :
 ∃(M:S14.N) (e:Int),M.comps.length≤100000∧M.ctxs.length≤100000∧(∀p∈M.parts,p.ctrs.length≤100000∧p.m.ctrs.length≤100000)∧
  ∀(L:NLay) (W:World),NIs N L W→Gives14 6 #[NV N L,bit] M e W∧Gives14 7 #[NV N L,bit] M e W:=by
 by_cases b:S14.lrnE N bit=0
 ·unfold S14.lrnE at b;by_cases f:S14.checkNet N=0
  ·rw[zG (by simp[f])]at b;have a:bit=0∨bit=1:=by
    by_cases h:bit=0∨bit=1
    ·exact h
    ·rw[zG h]at b;omega
   have l:=s f;have n:=l.learnN by2 a;have t:=S14.check_zero n.check;refine⟨S14.learnN N bit,0,?_,?_,n.ctrs,fun L W d=>⟨?_,?_⟩⟩
   ·exact yD t.2.1 by2
   ·rw[n.xl];decide
   ·refine(learn_all l by2 a (E:=fun _=>False) (zaN N L) W ⟨L,rfl,fun w h=>d.step (h.toBelow (zJ _ _) (fun _ h=>h.elim))⟩).mono ?_;rintro r k ⟨v,rfl,o,g⟩;obtain⟨j,rfl,i⟩:=o.is;exact⟨j,rfl,fun c h=>i.step h,g⟩
   ·refine(zuF l by2 a L W d m).mono ?_;rintro r k ⟨j,rfl,i,g⟩;exact⟨j,rfl,fun c h=>i.step h,g⟩
  ·rw[zQ f]at b;exact absurd b f
 ·refine⟨S14.N0,S14.lrnE N bit,by decide,by decide,fun p q=>(by cases q),fun L W d=>⟨?_,?_⟩⟩
  ·refine(learn14_bad N L bit W d om m b).mono ?_;rintro r k ⟨rfl,a⟩;exact⟨NLay0,rfl,fun c _=>NIs.zero c,a⟩
  ·refine(rLearn14_bad N L bit W d om m b).mono ?_;rintro r k ⟨rfl,a⟩;exact⟨NLay0,rfl,fun c _=>NIs.zero c,a⟩
theorem small_nis14{N:S14.N}{L:NLay}{w:World}(c:NRaw N L w)(a:S14.small N):NIs N L w∧N.comps.length≤40∧∀p∈N.parts,p.ctrs.length≤9223372036854775807:=by
 refine⟨c.nis (fun p b=> ?_),(S14.fewC_iff.1 a.1).1,fun p b=> ?_⟩
 all_goals
  have h:=a.2.2.2 p b;unfold S14.big at h;simp only[not_or]at h;omega
theorem small_good14{N:S14.N}{L:NLay}{w:World}(e:NIs N L w)(m:S14.small N)(f:S14.checkNet N=0):GoodN N 200:=by
 obtain⟨q,g,i,l,n,h⟩:=S14.checkNet_zero f;refine⟨q,g,i,⟨l,n⟩,fun k c p o a=> ?_⟩;obtain⟨y,j⟩:∃y,L.ys[k]? = some y:=⟨_,zD (by rw[e.ly];exact(List.getElem?_eq_some_iff.1 a).1)⟩;have b:=e.ps k p y a j;have d:=m.2.2.2 p (yF a);unfold S14.big at d;simp only[not_or]at d;exact⟨h k c p o a,b.tab.ok,b.mch.byt,by omega⟩
theorem zmG(N:S14.N)(L:NLay)(bit:Int)(w:World)(s:NRaw N L w) :
 Calls Tryz.prog 3 #[NV N L,bit] w fun e w'=>e = .returned (.bool true)∧Below w w w':=by
 have HA:=zC fun W=>awake14_any W;by_cases n:S14.small N
 ·have o:=zC fun(W:World) (i:Below w w W)=>few14_any N L W (s.step i) true (by simp[n]);obtain⟨x,an,al⟩:=small_nis14 s n;obtain⟨M,er,ah,af,ad,R⟩:=learns14 N bit an al (fun h0=>small_good14 x n h0);have E:=zC fun(W:World) (i:Below w w W)=>(R L W (x.step i)).1;have V:=zC fun(W:World) (i:Below w w W)=>(R L W (x.step i)).2;have HS:=zC fun(L1 L2:NLay) (W:World) (h1:NIs M L1 W) (h2:NIs M L2 W)=>rsame14_eq M L1 L2 W h1 h2 ah af ad;unfold NV zaN at *;unfold Gives14 NV zaN at E V;obtain⟨S,I,H,T,f,c,g,d⟩:=zz4 N.comps.length N.parts.length N.ctxs.length N.part;obtain⟨mc,mp,mx,mt,ab,am,ae,ak⟩:=zz4 M.comps.length M.parts.length M.ctxs.length M.part;simp only[f,c,g,d]at o;simp only[ab,am,ae,ak,f,c,g,d]at E V HS;rw[f,c,g,d];obtain⟨W1,A,t,m⟩:=al1 w [.slice L.a1 S L.c1,.slice L.a2 I L.c2,.slice L.a3 H L.c3,T] 26;clear n s x an al f c g d ab am ae ak R ah af ad;go_enter Tryz.func3,Tryz.ntmps3;go_wp2_with (first
   | (rw[A])
   | (refine ld26 (.tmp 2) t ?_))
  refine mnb m (o.out _ m) fun w3 aj D=> ?_;have X:=t.step aj;clear t m aj A;go_wp2_with (first
   | (refine ld26 (.tmp 2) X ?_))
  refine(E.out _ D).mono ?_;rintro e r ⟨a,rfl,ac,q⟩;have B4:=zA D q;have O:=X.step q;clear X D q;obtain⟨v,z⟩:=zvJ r.heap.size;obtain⟨W5,y,_,k⟩:=al1 r [.slice none 0 0,.slice none 0 0,.slice none 0 0,.int .i64 0] 26;have q5:Blk W5 v [.slice none 0 0,.slice none 0 0,.slice none 0 0,.int .i64 0] 26:=by rw[←y,←z];exact Blk.new r _ _
  have k5:=O.step k;have ag:r.heap.size≤v:=by omega
  have ax:w.heap.size<v:=by rw[←z];exact O.lt
  have Y:=zA B4 k;clear B4 O;go_wp2_with (first
   | (rw[y,z])
   | (rw[y])
   | (refine st26 (.tmp 5) (.tmp 17) [.slice a.a1 mc a.c1,.slice a.a2 mp a.c2,.slice a.a3 mx a.c3,mt] q5 ?_;intro w6 q6 p s6;clear s6;have k6:=k5.keptRow p (by intro e;have:=zI e;omega);have Q:=Y.trans (yA p om Y.size);have ai:∀b,Below w6 w6 b→NIs M a b:=fun b h=>ac b ((k.trans (yA p ag k.size)).trans (h.mono (k.trans (yA p ag k.size)).size));clear k5 Y k p)
   | (refine ld26 (.tmp 2) k6 ?_))
  clear ac y z q5;refine(V.out _ Q).mono ?_;rintro e l ⟨j,rfl,aw,B⟩;have B7:=zA Q B;have U:=q6.step B;have ap:∀b,Below l l b→NIs M a b:=fun b h=>ai b (zA B h);clear k6 Q B ai q6;obtain⟨Z,K⟩:=zvJ l.heap.size;obtain⟨W8,G,_,u⟩:=al1 l [.slice none 0 0,.slice none 0 0,.slice none 0 0,.int .i64 0] 26;have q8:Blk W8 Z [.slice none 0 0,.slice none 0 0,.slice none 0 0,.int .i64 0] 26:=by rw[←G,←K];exact Blk.new l _ _
  have aa:=U.step u;have ao:l.heap.size≤Z:=by omega
  have aA:v<Z:=by rw[←K];exact U.lt
  have J:=zA B7 u;clear B7 U;go_wp2_with (first
   | (rw[G,K])
   | (rw[G])
   | (refine st26 (.tmp 7) (.tmp 23) [.slice j.a1 mc j.c1,.slice j.a2 mp j.c2,.slice j.a3 mx j.c3,mt] q8 ?_;intro F q9 C s9;clear s9;have av:=aa.keptRow C (by intro e;have:=zI e;omega);have B9:=J.trans (yA C om J.size);have P:=u.trans (yA C ao u.size);have aq:=HS.out a j F (ap F P) (aw F P);clear aa J u C P)
   | (refine ld26 (.tmp 5) av ?_)
   | (refine ld26 (.tmp 7) q9 ?_))
  refine aq.mono ?_;rintro e v1 ⟨rfl,au⟩;have ay:(er==er)=true:=by simp
  go_wp2_with fail;refine(HA.out _).mono ?_;rintro e v4 ⟨rfl,ar⟩;go_wp2;go_returns;exact⟨rfl,zA (zA B9 au) ar⟩
 ·have o:=zC fun(W:World) (i:Below w w W)=>few14_any N L W (s.step i) false (by simp[n]);unfold NV zaN at *;obtain⟨S,I,H,T,f,c,g,d⟩:=zz4 N.comps.length N.parts.length N.ctxs.length N.part;simp only[f,c,g,d]at o;rw[f,c,g,d];obtain⟨W1,A,t,m⟩:=al1 w [.slice L.a1 S L.c1,.slice L.a2 I L.c2,.slice L.a3 H L.c3,T] 26;clear n s f c g d;go_enter Tryz.func3,Tryz.ntmps3;go_wp2_with (first
   | (rw[A])
   | (refine ld26 (.tmp 2) t ?_))
  refine mnb m (o.out _ m) fun w2 az B2=> ?_;go_wp2_with fail;refine(HA.out _).mono ?_;rintro e r ⟨rfl,q⟩;go_wp2;go_returns;exact⟨rfl,zA B2 q⟩
end Go.Proofs.YthhgkafloejjiaaGreat
namespace Go.Proofs.YthhgkafloejjiaaGreat
open Go.ChangeShapes Go.WideShapes Go.ChangeAt Go.RowKit
theorem ziQ:Tryz.pinned.checked.prog.mayEnter=true:=by kernel_rfl
theorem ziP:(Rows.networkLearnsRow.lifted==Tryz.pinned.checked.prog.liftsFinal)=true:=by kernel_rfl
theorem ziO:laidOutB Tryz.pinned.checked.prog=true:=by kernel_rfl
theorem ziN:(Rows.networkLearnsRow.inPlace==Tryz.pinned.checked.prog.inPlace 3)=true:=by kernel_rfl
theorem ziM:(Rows.networkLearnsRow.unfollowed==Tryz.pinned.checked.prog.unfollowed 3)=true:=by kernel_rfl
theorem ziL:(Rows.networkLearnsRow.recurses==Tryz.pinned.checked.prog.recurses 3)=true:=by kernel_rfl
theorem ziK:(Rows.networkLearnsRow.named==Tryz.pinned.checked.prog.varsNamed 3)=true:=by kernel_rfl
theorem zjG:joinedFacts Tryz.pinned.checked.prog 3 Tryz.f3 Rows.networkLearnsSpec Rows.networkLearnsRow=true:=by
 unfold joinedFacts
 rewrite [ziQ,ziP,ziO,ziN,ziM,ziL,ziK]
 kernel_rfl
theorem zjF(l:Os)(E:l.Started)(H:Type)(enc:TypeId×Value→H) :
 ReturnsInHanded {} Tryz.checked l 3 .any (Rows.networkLearnsSpec.pre6 enc Tryz.prog Tryz.f3 Rows.networkLearnsRow.domain false) (Rows.networkLearnsSpec.post enc Tryz.prog Tryz.f3 false true false false):=by
 refine returnsInHanded_of_change (C:=Tryz.checked) lawOwn E zk Tryz.func3
  (ChangeSpec.witness6 (enc:=enc) (C:=Tryz.checked) false ⟨#[],#[.agg #[.slice none 0 0,.slice none 0 0,.slice none 0 0,.int .i64 0],.int .i64 0],[]⟩ 8 zk zk zk zk) ?_
 intro W A a Q gs T o n ae _;have b:∀(j:Nat) t v,Tryz.f3.params[j]? = some t→a[j]? = some v→Value.okWide Tryz.prog W .any A t v:=o;have y:=n;obtain⟨p,q,r,K,rfl,U,ad⟩:=n;have k:DataW.TrodAll enc Tryz.prog W 0 (fun _=>true) true Tryz.f3.params.toList a.toList Q p:=r;rw[Tryz.params3]at k b;obtain⟨f,ab,d0,S,O,q0,Y,rfl,rfl,g,J⟩:=trodAll_cons k;obtain⟨i,ac,V,aa,F,q1,rfl,rfl,rfl,w,P⟩:=trodAll_cons J;obtain⟨rfl,rfl,rfl⟩:=trodAll_nil P;obtain rfl:a = #[f,i]:=by cases a;simp_all
 obtain⟨rfl,rfl⟩:=trodVars_none K;have s:=g;have G:∀x∈O,x.block<W.heap.size:=by obtain⟨m,d⟩:=s;exact DataW.trod_lt m _ _ _ d
 have B:=b 0 26 f rfl rfl;have u:=w;have I:∀x∈F,x.block<W.heap.size:=by obtain⟨m,d⟩:=u;exact DataW.trod_lt m _ _ _ d
 have M:=b 1 3 i rfl rfl;clear r o;obtain⟨N,L,rfl,D⟩:=open_net B g;obtain⟨z,rfl,rfl,rfl,Z⟩:=open_int Tryz.underlying3 M w;refine(zmG N L z W D).mono fun e X ⟨R,c⟩=> ?_;subst R;exact⟨_,rfl,_,_,_,[],_,[],y,trodAll_mk1 (shut_bool Tryz.underlying4 _),(trodAll_cons_mk (Below.trod lawLaid zk (zbE zk) s c G) (trodAll_cons_mk (Below.trod lawLaid zk (zbE zk) u c I) trodAll_mk0)),rfl,c.frame _,fun h=>by cases h⟩
theorem NetworkLearns_holds:Rows.NetworkLearnsSaid:=
 OpenClaim.holds_of_wide 3 Tryz.f3 rfl rfl rfl rfl rfl rfl rfl ⟨rfl,rfl,rfl,rfl,rfl⟩ rfl rfl rfl rfl rfl zk Tryz.func3 (zjG)
  (zbE zk) (by unfold Func.isWrapper;rw[zG (of_decide_eq_false zk)];exact⟨rfl,rfl⟩)
  (fun c b H a _=>zjF c b H a)
