/- A part of the proof of L14l. No condition. -/
import Derived.Test.YthhgkafloejjiaaGreatZL14lbm
import Derived.Test.YthhgkafloejjiaaGreatZL14lbp
set_option linter.all false
set_option maxRecDepth 100000
set_option maxHeartbeats 2000000
namespace Go.Proofs.YthhgkafloejjiaaGreat
open Go.RowKit
theorem info_C14r:(Tryz.prog.info? 56).map (·.size)=some 6:=by kernel_rfl
theorem info_Xr14:(Tryz.prog.info? 46).map (·.size)=some 2:=by kernel_rfl
theorem info_Ar14:(Tryz.prog.info? 48).map (·.size)=some 1:=by kernel_rfl
theorem zjX{b:Int}{n:Nat}(h:b=(n:Int)):(2:Int)^b.toNat=((2^n:Nat):Int):=by rw[h];simp
theorem rpart14_0(c:S14.C)(p:S14.P)(y:Lay)(pt:Int)(n:Nat)(r:c.bits=(n:Int))(F:n≤16)(w:World)(m:PIs p y w)(g:c.kind=0) :
 Calls Tryz.prog 38 #[CV c,PV p y,pt] w fun e C=>e = .returned (.bool (S14.right c p pt))∧Below w w C:=by
 have b:=zC fun(W:World) (B:Below w w W)=>rempty14_0 c p y W (m.step B) g;have q:=zC fun W=>zbW n om W;obtain⟨R,a⟩:=zvJ (S14.right c p pt);rw[a];unfold S14.right at a;rw[zQ g]at a;obtain⟨E,z⟩:=zvJ (S14.bare p);rw[z]at b a;obtain⟨H,l,f,j,i⟩:=zcB w c 56 p y;unfold PV at b⊢;unfold CV at b⊢;obtain⟨A,k⟩:=zvJ (yB p y);have D:=zC (show some 16=some A.length by rw[←k];rfl);rw[k]at b j l⊢;clear k;obtain⟨P,t⟩:=zvJ (2^n);have v:=zjY F;rw[t]at q v;obtain⟨K,V,S,N,first,Q⟩:=c;simp only at g r a;have Y:=zZ zeC zeC;subst g r;unfold zV at *;simp only at b f l⊢;have d:=zC a;clear a m;go_enter Tryz.func38,Tryz.ntmps38;go_wp2_with (first
  | (rw[l])
  | (refine ld56 (.tmp 3) f ?_)
  | (refine ld50 (.tmp 4) j ?_ D.out))
 refine mnb i (b.out _ i) fun T o x=> ?_;have s:=(f.step o).cell 1;simp only[zvH]at s;cases E with
 | false=>
   obtain rfl:R=false:=by rw[←d.out];try simp
   clear d;exact mf1 x
 | true=>
   go_wp2_with fail;refine mnb o (q.out _) fun M X h=> ?_;have u:=zA i h;have G:=f.step h;have I:=j.step h;obtain⟨J,s,O,_,L,U⟩:=G.c6;obtain rfl:R=true:=by rw[←d.out]
   clear d;go_wp2;exact mf3 u
theorem rpart14_4(c:S14.C)(p:S14.P)(y:Lay)(pt:Int)(n:Nat)(r:c.bits=(n:Int))(F:n≤16)(w:World)(m:PIs p y w)(g:c.kind=4) :
 Calls Tryz.prog 38 #[CV c,PV p y,pt] w fun e C=>e = .returned (.bool (S14.right c p pt))∧Below w w C:=by
 have b:=zC fun(W:World) (B:Below w w W)=>rempty14_4 c p y W (m.step B) g;have q:=zC fun W=>zbW n om W;obtain⟨R,a⟩:=zvJ (S14.right c p pt);rw[a];unfold S14.right at a;rw[zG om,zG om,zG om,zG om,zQ g]at a;obtain⟨E,z⟩:=zvJ (S14.bare p);rw[z]at b a;obtain⟨H,l,f,j,i⟩:=zcB w c 56 p y;unfold PV at b⊢;unfold CV at b⊢;obtain⟨A,k⟩:=zvJ (yB p y);have D:=zC (show some 16=some A.length by rw[←k];rfl);rw[k]at b j l⊢;clear k;obtain⟨P,t⟩:=zvJ (2^n);have v:=zjY F;rw[t]at q v;obtain⟨K,V,S,N,first,Q⟩:=c;simp only at g r a;have Y:=zZ zeC zeC;subst g r;unfold zV at *;simp only at b f l⊢;have d:=zC a;clear a m;go_enter Tryz.func38,Tryz.ntmps38;go_wp2_with (first
  | (rw[l])
  | (refine ld56 (.tmp 3) f ?_)
  | (refine ld50 (.tmp 4) j ?_ D.out))
 refine mnb i (b.out _ i) fun T o x=> ?_;have s:=(f.step o).cell 1;simp only[zvH]at s;cases E with
 | false=>
   obtain rfl:R=false:=by rw[←d.out];try simp
   clear d;exact mf1 x
 | true=>
   go_wp2_with fail;refine mnb o (q.out _) fun M X h=> ?_;have u:=zA i h;have G:=f.step h;have I:=j.step h;obtain⟨J,s,O,_,L,U⟩:=G.c6;obtain rfl:R=true:=by rw[←d.out]
   clear d;go_wp2;exact mf3 u
theorem rpart14_1(c:S14.C)(p:S14.P)(y:Lay)(pt:Int)(n:Nat)(z:c.bits=(n:Int))(J:n≤16)(L:p.ctrs.length≤9223372036854775807)(w:World)(l:PIs p y w)(j:c.kind=1) :
 Calls Tryz.prog 38 #[CV c,PV p y,pt] w fun e H=>e = .returned (.bool (S14.right c p pt))∧Below w w H:=by
 have b:=zC fun(W:World) (q:Below w w W)=>rempty14_1 c p y W (l.step q) j;have x:=zC fun W=>zbW n om W;have i:=zC fun(W:World) (q:Below w w W)=>ziE p.ctrs y.a1 y.c1 (2^n) c.limit W L (l.rc.step q);obtain⟨R,a⟩:=zvJ (S14.right c p pt);rw[a];unfold S14.right at a;rw[zG om,zQ j]at a;obtain⟨E,F⟩:=zvJ (S14.bare {p with ctrs:=[]});rw[F]at b a;obtain⟨B,r,h,g,m⟩:=zcB w c 56 p y;have v:B.cell? ⟨w.heap.size+1,0,none⟩=some (.slice y.a1 p.ctrs.length y.c1):=g.cell 0;unfold PV at b⊢;unfold CV at b⊢;obtain⟨G,o⟩:=zvJ (yB p y);have I:=zC (show some 16=some G.length by rw[←o];rfl);rw[o]at b g r⊢;clear o;obtain⟨P,s⟩:=zvJ (2^n);have C:=zjY J;rw[s]at x C i;obtain⟨U,ac,K,Y,first,aa⟩:=c;simp only at j z a;have ae:=zZ zeC zeC;subst j z;unfold zV at *;simp only at b h r⊢;obtain⟨Q,k⟩:=zvJ (S14.okCtrs p.ctrs P K);simp only at i;simp only[Int.toNat_natCast]at a;rw[s,k]at a;rw[k]at i;have d:=zC a;clear a l;go_enter Tryz.func38,Tryz.ntmps38;go_wp2_with (first
  | (rw[r])
  | (refine ld56 (.tmp 3) h ?_)
  | (refine ld50 (.tmp 4) g ?_ I.out))
 refine mnb m (b.out _ m) fun w2 u D=> ?_;have A:=(h.step u).cell 1;simp only[zvH]at A;cases E with
 | false=>
   obtain rfl:R=false:=by rw[←d.out];try simp
   clear d;exact mf1 D
 | true=>
   go_wp2_with fail;refine mnb u (x.out _) fun X ad f=> ?_;have t:=zA m f;have N:=h.step f;have S:=g.step f;obtain⟨T,A,Z,_,V,x5⟩:=N.c6;have q0:=(f.cell (zE v)).trans v;obtain rfl:R=Q:=by rw[←d.out];try simp
   clear d k;go_wp2_with fail;refine mnb t (i.out _ t) fun O ab M=> ?_;exact mf1 M
theorem rpart14_3(c:S14.C)(p:S14.P)(y:Lay)(pt:Int)(n:Nat)(hn:c.bits=(n:Int))(af:n≤16)(w:World)(J:PIs p y w)(t:c.kind=3) :
 Calls Tryz.prog 38 #[CV c,PV p y,pt] w fun e w'=>e = .returned (.bool (S14.right c p pt))∧Below w w w':=by
 have i:=zC fun(W:World) (z:Below w w W)=>rempty14_3 c p y W (J.step z) t;have N:=zC fun W=>zbW n om W;have k:=zC fun(W:World) (z:Below w w W)=>ziF p.m y.pl W (J.mch.step z);have v9:∃q D l r I A:Value,yX p.m y.pl = [.int .i64 p.m.bits,.int .i64 p.m.least,q,D,l,r,.int .i64 p.m.part,I,A]:=⟨_,_,_,_,_,_,rfl⟩;obtain⟨R,d⟩:=zvJ (S14.right c p pt);rw[d];unfold S14.right at d;rw[zG om,zG om,zG om,zQ t]at d;obtain⟨E,hE⟩:=zvJ (S14.bare {p with m:=S14.zM});rw[hE]at i d;obtain⟨f,G,s,h,F⟩:=zcB w c 56 p y;have g:=h.mid14 (o:=4) (n:=9) (sub:=yX p.m y.pl) rfl;have H:f.cell? ⟨w.heap.size+1,4,none⟩=some (.int .i64 p.m.bits):=h.cell 4;have K:f.cell? ⟨w.heap.size+1,5,none⟩=some (.int .i64 p.m.least):=h.cell 5;have u:f.cell? ⟨w.heap.size+1,10,none⟩=some (.int .i64 p.m.part):=h.cell 10;unfold MV at k;obtain⟨q,D,l,r,I,A,S⟩:=v9;rw[S]at k g;clear S;have V:f.cell? ⟨w.heap.size+1,6,none⟩=some q:=g 2 _ rfl;have Z:f.cell? ⟨w.heap.size+1,7,none⟩=some D:=g 3 _ rfl;have r8:f.cell? ⟨w.heap.size+1,8,none⟩=some l:=g 4 _ rfl;have M:f.cell? ⟨w.heap.size+1,9,none⟩=some r:=g 5 _ rfl;have U:f.cell? ⟨w.heap.size+1,11,none⟩=some I:=g 7 _ rfl;have X:f.cell? ⟨w.heap.size+1,12,none⟩=some A:=g 8 _ rfl;obtain⟨Q,T⟩:=zvJ (S12.check p.m);rw[T]at k d;obtain⟨m1,m2,m7,v,B,C⟩:=zz3 p.m.bits p.m.least p.m.part;rw[v,B,C]at d k;rw[v]at H;rw[B]at K;rw[C]at u;clear v B C T g;unfold PV at i⊢;unfold CV at i⊢;obtain⟨VP,x⟩:=zvJ (yB p y);have ai:=zC (show some 16=some VP.length by rw[←x];rfl);rw[x]at i h G⊢;clear x;obtain⟨P,ad⟩:=zvJ (2^n);have ae:=zjY af;rw[ad]at N ae;obtain⟨av,am,ag,al,first,ax⟩:=c;simp only at t hn d;have ao:=zZ zeC zeC;subst t hn;unfold zV at *;simp only at i s G⊢;obtain⟨d1,d2,d3,L,ah,aj,ac,ab⟩:=zz4 ((m1==(n:Int))) ((m2==ag)) ((m7==pt)) ((Q==0));have Y:decide (Q=0)=L:=by rw[←ab];rfl
 rw[ah,aj,ac,Y]at d;clear Y;have b:=zC d;clear d J;go_enter Tryz.func38,Tryz.ntmps38;go_wp2_with (first
  | (rw[G])
  | (refine ld56 (.tmp 3) s ?_)
  | (refine ld50 (.tmp 4) h ?_ ai.out))
 refine mnb F (i.out _ F) fun w2 aa B2=> ?_;have O:=(s.step aa).cell 1;simp only[zvH]at O;cases E with
 | false=>
   obtain rfl:R=false:=by rw[←b.out];try simp
   clear b;exact mf1 B2
 | true=>
   go_wp2_with fail;refine mnb aa (N.out _) fun w3 aq a=> ?_;have j:=zA F a;have ak:=s.step a;have ar:=h.step a;obtain⟨x0,O,q,_,l,r⟩:=ak.c6;have q4:=(a.cell (zE H)).trans H;have q5:=(a.cell (zE K)).trans K;have ap:=(a.cell (zE u)).trans u;have s6:=(a.cell (zE V)).trans V;have s7:=(a.cell (zE Z)).trans Z;have s8:=(a.cell (zE r8)).trans r8;have s9:=(a.cell (zE M)).trans M;have au:=(a.cell (zE U)).trans U;have aw:=(a.cell (zE X)).trans X;cases d1 with
   | false=>
     obtain rfl:R=false:=by rw[←b.out];try simp
     clear b;go_wp2;exact mf3 j
   | true=>
   cases d2 with
   | false=>
     obtain rfl:R=false:=by rw[←b.out];try simp
     clear b;go_wp2;exact mf3 j
   | true=>
   cases d3 with
   | false=>
     obtain rfl:R=false:=by rw[←b.out];try simp
     clear b;go_wp2;exact mf3 j
   | true=>
     obtain rfl:R=L:=by rw[←b.out];try simp
     clear b;go_wp2_with fail;refine mnb j (k.out _ j) fun w4 an B4=> ?_;go_wp2;exact mf3 B4
theorem rpart14_5(c:S14.C)(p:S14.P)(y:Lay)(pt:Int)(n:Nat)(L:c.bits=(n:Int))(ad:n≤16)(ac:0≤c.first∧c.first≤c.second∧c.second≤1000)(w:World)(q:PIs p y w)(l:c.kind=5) :
 Calls Tryz.prog 38 #[CV c,PV p y,pt] w fun e w'=>e = .returned (.bool (S14.right c p pt))∧Below w w w':=by
 have f:=zC fun(W:World) (x:Below w w W)=>rempty14_5 c p y W (q.step x) l;have K:=zC fun W=>zbW n om W;have k:=zC fun(W:World) (x:Below w w W)=>zdH p.mi p.mw _ W (q.mix.step x);obtain⟨R,a⟩:=zvJ (S14.right c p pt);rw[a];unfold S14.right at a;rw[zG om,zG om,zG om,zG om,zG om,zQ l]at a;obtain⟨E,X⟩:=zvJ (S14.bare {p with mi:=0,mw:=[]});rw[X]at f a;obtain⟨D,z,j,g,s⟩:=zcB w c 56 p y;have A:=g.mid14 (o:=13) (n:=2) (sub:=MixC p y) rfl;have u:D.cell? ⟨w.heap.size+1,13,none⟩=some (.int .i64 p.mi):=g.cell 13;have t:D.cell? ⟨w.heap.size+1,14,none⟩=some (.slice y.a3 p.mw.length y.c3):=g.cell 14;obtain⟨Q,G⟩:=zvJ (S13.check 16 p.mi p.mw);unfold MixC at k A;rw[G]at k a;obtain⟨mi,r,B,m⟩:=zz2 p.mi p.mw.length;rw[B,m]at a k A;rw[B]at u;rw[m]at t;clear B m G;unfold PV at f⊢;unfold CV at f⊢;obtain⟨Z,v⟩:=zvJ (yB p y);have aa:=zC (show some 16=some Z.length by rw[←v];rfl);rw[v]at f g z⊢;clear v;obtain⟨P,C⟩:=zvJ (2^n);have U:=zjY ad;rw[C]at K U;obtain⟨ai,ap,ao,al,first,h⟩:=c;simp only at l L a;have ar:=zZ zeC zeC;subst l L;unfold zV at *;simp only at f j z⊢;have J:(2:Int)^(n:Int).toNat=(P:Int):=by rw[zjX rfl,C]
 rw[J]at a;simp only at ac;have an:wrap64 (h-first)=h-first:=IntWalk.wrap64_in _ ⟨by omega,by omega⟩;have ak:wrap64 (h-first+1)=h-first+1:=IntWalk.wrap64_in _ ⟨by omega,by omega⟩;obtain⟨T,F,S,ab⟩:=zz2 ((mi==h-first+1)) (((r:Int)==(P:Int)));have M:decide ((r:Int)=(P:Int))=F:=by rw[←ab];rfl
 obtain⟨I,Y⟩:=zvJ ((Q==0));have O:decide (Q=0)=I:=by rw[←Y];rfl
 rw[S,M,O]at a;clear O M J;have b:=zC a;clear a q;go_enter Tryz.func38,Tryz.ntmps38;go_wp2_with (first
  | (rw[z])
  | (refine ld56 (.tmp 3) j ?_)
  | (refine ld50 (.tmp 4) g ?_ aa.out))
 refine mnb s (f.out _ s) fun w2 H V=> ?_;have N:=(j.step H).cell 1;simp only[zvH]at N;cases E with
 | false=>
   obtain rfl:R=false:=by rw[←b.out];try simp
   clear b;exact mf1 V
 | true=>
   go_wp2_with fail;refine mnb H (K.out _) fun w3 aq d=> ?_;have i:=zA s d;have af:=j.step d;have ag:=g.step d;obtain⟨x0,N,x2,_,x4,x5⟩:=af.c6;have ah:=(d.cell (zE u)).trans u;have aj:=(d.cell (zE t)).trans t;have ae:=yV A d;cases T with
   | false=>
     obtain rfl:R=false:=by rw[←b.out];try simp
     clear b;go_wp2;exact mf3 i
   | true=>
   cases F with
   | false=>
     obtain rfl:R=false:=by rw[←b.out];try simp
     clear b;go_wp2;exact mf3 i
   | true=>
     obtain rfl:R=I:=by rw[←b.out];try simp
     clear b;go_wp2_with (first
      | (refine wpList_load_mid by3 46 (.tmp 104) by3 (w.heap.size+1) 13 by3 [mi,.slice y.a3 r y.c3] _ ae Tryz.underlying46 rfl info_Xr14 ?_))
     refine mnb i (k.out _ i) fun w4 am B4=> ?_;go_wp2;exact mf3 B4
theorem rpart14_6(c:S14.C)(p:S14.P)(y:Lay)(pt:Int)(n:Nat)(I:c.bits=(n:Int))(ab:n≤16)(w:World)(m:PIs p y w)(j:c.kind=6) :
 Calls Tryz.prog 38 #[CV c,PV p y,pt] w fun e X=>e = .returned (.bool (S14.right c p pt))∧Below w w X:=by
 have d:=zC fun(W:World) (u:Below w w W)=>rempty14_6 c p y W (m.step u) j;have H:=zC fun W=>zbW n om W;obtain⟨a6,aa,l,V,ah,ae⟩:=m.apm;have i:=zC fun(W:World) (u:Below w w W)=>zjM p.ac a6 aa W om (ae.step u);obtain⟨R,a⟩:=zvJ (S14.right c p pt);rw[a];unfold S14.right at a;rw[zG om,zG om,zG om,zG om,zG om,zG om,zQ j]at a;obtain⟨E,S⟩:=zvJ (S14.bare {p with ac:=[]});rw[S]at d a;obtain⟨M,v,h,g,s⟩:=zcB w c 56 p y;have x:=g.mid14 (o:=15) (n:=1) (sub:=ApmC p y) rfl;have k:M.cell? ⟨w.heap.size+1,15,none⟩=some (.slice y.a4 p.ac.length y.c4):=g.cell 15;obtain⟨Q,B⟩:=zvJ (S11.check p.ac);unfold ApmC at x l;rw[B]at i a;rw[←l]at i;obtain⟨r,D⟩:=zvJ p.ac.length;rw[D]at a i x V k;clear D B l;unfold PV at d⊢;unfold CV at d⊢;obtain⟨U,t⟩:=zvJ (yB p y);have Y:=zC (show some 16=some U.length by rw[←t];rfl);rw[t]at d g v⊢;clear t;obtain⟨P,z⟩:=zvJ (2^n);have N:=zjY ab;rw[z]at H N;obtain⟨ai,ao,an,aj,first,al⟩:=c;simp only at j I a;have aq:=zZ zeC zeC;subst j I;unfold zV at *;simp only at d h v⊢;have G:(2:Int)^(n:Int).toNat=(P:Int):=by rw[zjX rfl,z]
 rw[G]at a;obtain⟨A,Z⟩:=zvJ (((r:Int)==33*(P:Int)));have J:decide ((r:Int)=33*(P:Int))=A:=by rw[←Z];rfl
 obtain⟨F,T⟩:=zvJ ((Q==0));have L:decide (Q=0)=F:=by rw[←T];rfl
 rw[J,L]at a;clear L J G;have b:=zC a;clear a m;go_enter Tryz.func38,Tryz.ntmps38;go_wp2_with (first
  | (rw[v])
  | (refine ld56 (.tmp 3) h ?_)
  | (refine ld50 (.tmp 4) g ?_ Y.out))
 refine mnb s (d.out _ s) fun w2 C O=> ?_;have K:=(h.step C).cell 1;simp only[zvH]at K;cases E with
 | false=>
   obtain rfl:R=false:=by rw[←b.out];try simp
   clear b;exact mf1 O
 | true=>
   go_wp2_with fail;refine mnb C (H.out _) fun w3 ap f=> ?_;have q:=zA s f;have af:=h.step f;have ag:=g.step f;obtain⟨x0,K,x2,_,x4,x5⟩:=af.c6;have ak:=(f.cell (zE k)).trans k;have ad:=yV x f;cases A with
   | false=>
     obtain rfl:R=false:=by rw[←b.out];try simp
     clear b;go_wp2;exact mf3 q
   | true=>
     obtain rfl:R=F:=by rw[←b.out];try simp
     clear b;go_wp2_with (first
      | (refine wpList_load_mid by3 48 (.tmp 119) by3 (w.heap.size+1) 15 by3 [.slice y.a4 r y.c4] _ ad Tryz.underlying48 rfl info_Ar14 ?_))
     refine mnb q (i.out _ q) fun w4 am B4=> ?_;go_wp2;exact mf3 B4
theorem rpart14_2(c:S14.C)(p:S14.P)(y:Lay)(pt:Int)(n:Nat)(hn:c.bits=(n:Int))(am:n≤16)(hl:p.ctrs.length≤9223372036854775807)(w:World)(I:PIs p y w)(M:c.kind=2) :
 Calls Tryz.prog 38 #[CV c,PV p y,pt] w fun e w'=>e = .returned (.bool (S14.right c p pt))∧Below w w w':=by
 have r:=zC fun(W:World) (v:Below w w W)=>rempty14_2 c p y W (I.step v) M;have ad:=zC fun W=>zbW n om W;have A:=zC fun W=>rcount14_any W;have s:=zC fun(W:World) (v:Below w w W)=>ziE p.ctrs y.a1 y.c1 215 c.limit W hl (I.rc.step v);have D:=zC fun(W:World) (v:Below w w W)=>(show Calls Tryz.prog 72 #[.agg #[p.sb,.slice y.a2 p.sd.length y.c2]] W _ from zcX p.sb p.sd y.a2 y.c2 W (I.tab.step v));have z:=zC fun W=>zbB p.slot 0 (((2^n:Nat):Int)-1) W;obtain⟨R,a⟩:=zvJ (S14.right c p pt);rw[a];unfold S14.right at a;rw[zG om,zG om,zQ M]at a;obtain⟨E,hE⟩:=zvJ (S14.bare {p with ctrs:=[],sb:=0,sd:=[],slot:=0});rw[hE]at r a;obtain⟨F,ab,H,k,B1⟩:=zcB w c 56 p y;have ak:=k.mid14 (o:=1) (n:=2) (sub:=SlotC p y) rfl;unfold SlotC at ak;have J:F.cell? ⟨w.heap.size+1,0,none⟩=some (.slice y.a1 p.ctrs.length y.c1):=k.cell 0;have L:F.cell? ⟨w.heap.size+1,1,none⟩=some (.int .i64 p.sb):=k.cell 1;have C:F.cell? ⟨w.heap.size+1,2,none⟩=some (.slice y.a2 p.sd.length y.c2):=k.cell 2;have B:F.cell? ⟨w.heap.size+1,3,none⟩=some (.int .i64 p.slot):=k.cell 3;obtain⟨Q,hQ⟩:=zvJ (S10.check p.sb p.sd);rw[hQ]at D a;obtain⟨T,hT⟩:=zvJ (S14.okCtrs p.ctrs 215 c.limit);rw[hT]at s a;obtain⟨m1,m2,sb,t,ac,S,O,ag⟩:=zz4 p.ctrs.length p.sd.length p.sb p.slot;rw[ac]at s J;rw[S,O]at D ak;rw[S]at C;rw[O]at L a;rw[ag]at B z a;clear ac S O ag hQ hT;unfold PV at r⊢;unfold CV at r⊢;obtain⟨VP,N⟩:=zvJ (yB p y);have ao:=zC (show some 16=some VP.length by rw[←N];rfl);rw[N]at r k ab⊢;clear N;obtain⟨P,af⟩:=zvJ (2^n);have al:=zjY am;rw[af]at ad al z;obtain⟨aC,aw,x,av,first,aD⟩:=c;simp only at M hn a;have ay:=zZ zeC zeC;subst M hn;unfold zV at *;simp only at r H ab⊢;have ah:(2:Int)^(n:Int).toNat=(P:Int):=by rw[zjX rfl,af]
 rw[ah]at a;have aB:wrap64 ((P:Int)-1)=(P:Int)-1:=IntWalk.wrap64_in _ ⟨by omega,by omega⟩;have ax:IntKind.i64.wrap ((P:Int)-1)=(P:Int)-1:=zeV om om;obtain⟨h,hh⟩:=zvJ (S14.has t 0 ((P:Int)-1));rw[hh]at z a;obtain⟨d1,d2,an,ap⟩:=zz2 ((sb==(n:Int))) ((Q==0));have ae:decide (Q=0)=d2:=by rw[←ap];rfl
 rw[an,ae]at a;clear ae hh ah;have j:=zC a;clear a I;go_enter Tryz.func38,Tryz.ntmps38;go_wp2_with (first
  | (rw[ab])
  | (refine ld56 (.tmp 3) H ?_)
  | (refine ld50 (.tmp 4) k ?_ ao.out))
 refine mnb B1 (r.out _ B1) fun w2 aj B2=> ?_;have X:=(H.step aj).cell 1;simp only[zvH]at X;cases E with
 | false=>
   obtain rfl:R=false:=by rw[←j.out];try simp
   clear j;exact mf1 B2
 | true=>
   go_wp2_with fail;refine mnb aj (ad.out _) fun u az m=> ?_;have i:=zA B1 m;have ai:=H.step m;have ar:=k.step m;obtain⟨x0,X,x2,_,x4,x5⟩:=ai.c6;have q0:=(m.cell (zE J)).trans J;have q1:=(m.cell (zE L)).trans L;have q2:=(m.cell (zE C)).trans C;have q3:=(m.cell (zE B)).trans B;have l:Cells u [(⟨w,1,none⟩,n),(⟨w,2,none⟩,x),(⟨w.heap.size+1,0,none⟩,.slice y.a1 m1 y.c1),(⟨w.heap.size+1,1,none⟩,sb),(⟨w.heap.size+1,2,none⟩,.slice y.a2 m2 y.c2),(⟨w.heap.size+1,3,none⟩,t)]:=⟨X,x2,q0,q1,q2,q3,zT⟩;clear J L C B ai ar;cases T with
   | false=>
     obtain rfl:R=false:=by rw[←j.out];try simp
     clear j;go_wp2_with fail;refine zvL 27 1 [(U,0,2),(U,3,2),(zvE,2,1),(zvE,5,1),(U,6,11),(zvE,17,1),(U,18,7),(zvE,25,1),(U,26,1)] (Keeps u [(⟨w,1,none⟩,n),(⟨w,2,none⟩,x),(⟨w.heap.size+1,0,none⟩,.slice y.a1 m1 y.c1),(⟨w.heap.size+1,1,none⟩,sb),(⟨w.heap.size+1,2,none⟩,.slice y.a2 m2 y.c2),(⟨w.heap.size+1,3,none⟩,t)]) (Keeps.start l) fun Y V F4 hY f=> ?_;repeat refine mrd ?_
     refine mcl ?_;refine mck (Keeps.start l) (A.out _) fun w4 Z g=> ?_;repeat refine mrd ?_
     refine mcl ?_;refine mck g (s.out _ (zA i g.1)) fun w5 aa b=> ?_;repeat first|refine mud ?_|refine mrd ?_
     repeat first|refine mud ?_|refine msk (b) ?_
     repeat first|refine mud ?_|refine mrd ?_
     repeat first|refine mud ?_|refine msk (b) ?_
     repeat first|refine mud ?_|refine mrd ?_
     refine mdn f fun K d=> ?_;clear f hY;have q:=zA i b.1;go_wp2_with fail;refine mok d ?_;clear d;go_wp2;exact mf3 q
   | true=>
   cases d1 with
   | false=>
     obtain rfl:R=false:=by rw[←j.out];try simp
     clear j;go_wp2_with fail;refine zvL 27 1 [(U,0,2),(U,3,2),(zvE,2,1),(zvE,5,1),(U,6,11),(zvE,17,1),(U,18,7),(zvE,25,1),(U,26,1)] (Keeps u [(⟨w,1,none⟩,n),(⟨w,2,none⟩,x),(⟨w.heap.size+1,0,none⟩,.slice y.a1 m1 y.c1),(⟨w.heap.size+1,1,none⟩,sb),(⟨w.heap.size+1,2,none⟩,.slice y.a2 m2 y.c2),(⟨w.heap.size+1,3,none⟩,t)]) (Keeps.start l) fun Y V F4 hY f=> ?_;repeat refine mrd ?_
     refine mcl ?_;refine mck (Keeps.start l) (A.out _) fun w4 Z g=> ?_;repeat refine mrd ?_
     refine mcl ?_;refine mck g (s.out _ (zA i g.1)) fun w5 aa b=> ?_;repeat first|refine mud ?_|refine mrd ?_
     repeat first|refine mud ?_|refine msk (b) ?_
     repeat first|refine mud ?_|refine mrd ?_
     repeat first|refine mud ?_|refine msk (b) ?_
     repeat first|refine mud ?_|refine mrd ?_
     refine mdn f fun K d=> ?_;clear f hY;have q:=zA i b.1;go_wp2_with fail;refine mok d ?_;clear d;go_wp2;exact mf3 q
   | true=>
   cases d2 with
   | false=>
     obtain rfl:R=false:=by rw[←j.out];try simp
     clear j;go_wp2_with fail;refine zvL 27 1 [(U,0,2),(U,3,2),(zvE,2,1),(zvE,5,1),(U,6,11),(zvE,17,1),(U,18,7),(zvE,25,1),(U,26,1)] (Keeps u [(⟨w,1,none⟩,n),(⟨w,2,none⟩,x),(⟨w.heap.size+1,0,none⟩,.slice y.a1 m1 y.c1),(⟨w.heap.size+1,1,none⟩,sb),(⟨w.heap.size+1,2,none⟩,.slice y.a2 m2 y.c2),(⟨w.heap.size+1,3,none⟩,t)]) (Keeps.start l) fun Y V F4 hY f=> ?_;repeat refine mrd ?_
     refine mcl ?_;refine mck (Keeps.start l) (A.out _) fun w4 Z g=> ?_;repeat refine mrd ?_
     refine mcl ?_;refine mck g (s.out _ (zA i g.1)) fun w5 aa b=> ?_;repeat first|refine mud ?_|refine mrd ?_
     refine mcl ?_;refine mck b (D.out _ (zA i b.1)) fun w6 au G=> ?_;repeat first|refine mud ?_|refine mrd ?_
     repeat first|refine mud ?_|refine msk (G) ?_
     repeat first|refine mud ?_|refine mrd ?_
     refine mdn f fun K d=> ?_;clear f hY;have q:=zA i G.1;go_wp2_with fail;refine mok d ?_;clear d;go_wp2;exact mf3 q
   | true=>
     obtain rfl:R=h:=by rw[←j.out];try simp
     clear j;go_wp2_with fail;refine zvL 27 1 [(U,0,2),(U,3,2),(zvE,2,1),(zvE,5,1),(U,6,11),(zvE,17,1),(U,18,7),(zvE,25,1),(U,26,1)] (Keeps u [(⟨w,1,none⟩,n),(⟨w,2,none⟩,x),(⟨w.heap.size+1,0,none⟩,.slice y.a1 m1 y.c1),(⟨w.heap.size+1,1,none⟩,sb),(⟨w.heap.size+1,2,none⟩,.slice y.a2 m2 y.c2),(⟨w.heap.size+1,3,none⟩,t)]) (Keeps.start l) fun Y V F4 hY f=> ?_;repeat refine mrd ?_
     refine mcl ?_;refine mck (Keeps.start l) (A.out _) fun w4 Z g=> ?_;repeat refine mrd ?_
     refine mcl ?_;refine mck g (s.out _ (zA i g.1)) fun w5 aa b=> ?_;repeat first|refine mud ?_|refine mrd ?_
     refine mcl ?_;refine mck b (D.out _ (zA i b.1)) fun w6 au G=> ?_;repeat first|refine mud ?_|refine mrd ?_
     refine mcl ?_;refine mck G (z.out _) fun w7 aA aq=> ?_;repeat first|refine mud ?_|refine mrd ?_
     refine mdn f fun K d=> ?_;clear f hY;have q:=zA i aq.1;go_wp2_with fail;refine mok d ?_;clear d;go_wp2;exact mf3 q
theorem rpart14_any(k:Nat)(c:S14.C)(p:S14.P)(y:Lay)(pt:Int)(j:S14.ok c (k:Int)=true)(m:k≤16)(i:p.ctrs.length≤9223372036854775807)(w:World)(d:PIs p y w) :
 Calls Tryz.prog 38 #[CV c,PV p y,pt] w fun e l=>e = .returned (.bool (S14.right c p pt))∧Below w w l:=by
 have f:=S14.ok_is j;have b:c.bits=(c.bits.toNat:Int):=(zgO f.bits.1).symm;have a:c.bits.toNat≤16:=by have:=f.bits;omega
 rcases f.kind with h|h|h|h|h|h|h
 ·exact rpart14_0 c p y pt _ b a w d h
 ·exact rpart14_1 c p y pt _ b a i w d h
 ·exact rpart14_2 c p y pt _ b a i w d h
 ·exact rpart14_3 c p y pt _ b a w d h
 ·exact rpart14_4 c p y pt _ b a w d h
 ·have g:=f.mix h;exact rpart14_5 c p y pt _ b a ⟨g.1,g.2.1,by omega⟩ w d h
 ·exact rpart14_6 c p y pt _ b a w d h
theorem zfQ(N:S14.N)(L:NLay)(w:World)(hN:NIs N L w)(aA:N.comps.length≤4611686018427387904)(ax:∀p∈N.parts,p.ctrs.length≤9223372036854775807) :
 Calls Tryz.prog 19 #[NV N L] w fun e w'=>e = .returned (.int .i64 (S14.checkNet N))∧Below w w w':=by
 have F:Below w w (w.alloc (.cells (zaN N L).toArray 26)):=(zJ _ _).alloc (zF _) _;have HC:=zC fun(W:World) (B:Below w w W)=>rcheck14_any N.comps L.a1 L.c1 W aA (hN.rc.step B);have ab:=zC fun W=>zbB N.part 1 255 W;obtain⟨HN,aD⟩:=zh2 hN ax;obtain⟨R,b⟩:=zvJ (S14.checkNet N);rw[b];unfold S14.checkNet at b;have HZ:=zC (fun h=>S14.check_zero_N (l:=N.comps) h);obtain⟨E,hE⟩:=zvJ (S14.check N.comps);rw[hE]at b HC HZ;obtain⟨aJ,aq⟩:=zvJ (S14.has N.part 1 255);rw[aq]at b ab;unfold NV zaN at *;obtain⟨u,m,H,G,O,t,D,T⟩:=zz4 N.comps.length N.parts.length N.ctxs.length N.part;rw[O,t,D]at b;rw[O]at HZ HC;rw[O,t,D,T]at F;rw[T]at ab;rw[O,t,D,T];obtain⟨al,am,ad⟩:=zh3 O t T;clear O t D T hN ax hE aq aA;obtain⟨W0,J,a,_⟩:=al1 w [.slice L.a1 u L.c1,.slice L.a2 m L.c2,.slice L.a3 H L.c3,G] 26;rw[show([.slice L.a1 u L.c1,.slice L.a2 m L.c2,.slice L.a3 H L.c3,G]:List Value).toArray = #[.slice L.a1 u L.c1,.slice L.a2 m L.c2,.slice L.a3 H L.c3,.int .i64 G]from rfl,J]at F;have Q:=zC (HC.out W0 F);clear HC;by_cases ac:E=0
 ·subst ac;obtain⟨aP,aN,ak⟩:=HZ.out rfl;have aG:=zC ak;rw[zG by1]at b;clear HZ ak;by_cases t:m=u
  ·by_cases D:H=16
   ·rw[zG om]at b;have I:((m:Int) != (u:Int))=false:=by simp[t]
    have S:((H:Int) != 16)=false:=by simp[D]
    have au:=zC t;clear t D;cases aJ with
    | false=>
      rw[zQ rfl]at b;subst b;obtain⟨n,r,f,d⟩:=a.c4;go_enter Tryz.func19,Tryz.ntmps19;go_wp2_with (rw[J]);refine Q.out.mono ?_;rintro e w1 ⟨rfl,s⟩;have C:=a.step s;have A:=zA F s;clear n r f d a;have a:=C;obtain⟨n,r,f,d⟩:=a.c4;go_wp2_with fail;refine mnb A (ab.out _) fun P af B2=> ?_;exact mf1 B2
    | true=>
      rw[zG by1]at b;have aB:=zC b;clear b;obtain⟨n,r,f,d⟩:=a.c4;go_enter Tryz.func19,Tryz.ntmps19;go_wp2_with (rw[J]);refine Q.out.mono ?_;rintro e w1 ⟨rfl,s⟩;have C:=a.step s;have A:=zA F s;clear n r f d a;have a:=C;obtain⟨n,r,f,d⟩:=a.c4;go_wp2_with fail;refine(ab.out _).mono ?_;rintro e P ⟨rfl,af⟩;have k2:=C.step af;have B2:=zA A af;clear n r f d a;have a:=k2;obtain⟨n,r,f,d⟩:=a.c4;go_wp2_with fail;clear n r f d a I S
      go_loopw [4] (fun i wr=>∃(k:Nat),k≤m∧i = .int .i64 (k:Int)∧Hid (∀(j:Nat) (c:S14.C) (p:S14.P),j<k→N.comps[j]? = some c→N.parts[j]? = some p→S14.right c p G=true)∧
       Blk wr w [.slice L.a1 u L.c1,.slice L.a2 m L.c2,.slice L.a3 H L.c3,G] 26∧Below w w wr) (fun i _=>m-(intOf i).toNat)
      case atStart=>exact⟨0,by omega,rfl,zC (fun j c p hj=>by omega),k2,B2⟩
      case round=>
       clear C k2 A B2;obtain⟨k,hk,rfl,an,a,V⟩:=hrel;by_cases aM:k<m
       ·have aO:(k:Int)<(u:Int):=by have:=au.out;omega
        have aQ:(k:Int)<(m:Int):=by omega
        obtain⟨x,Z⟩:∃x,N.comps[k]? = some x:=⟨_,zD (by have:=al.out;have:=au.out;omega)⟩;obtain⟨g,o,av,aC⟩:=HN.out.rc (fun e=>by have z:=yG List.length e;rw[zaB]at z;simp at z;have:=al.out;omega);obtain⟨g2,o2,p,y,aj,hp,hy,ag,aw⟩:=HN.out.part_at (k:=k) (by have:=am.out;omega)
        have ay:w.rangeAt g (o+k*6) (zV x):=fun j v hv=>by
         have hj:j<6:=(List.getElem?_eq_some_iff.1 hv).1;have z:=aC (6*k+j) v ((zrL _ Z hj).trans hv);rw[show o+(6*k+j)=o+k*6+j by omega]at z;exact z
        obtain⟨Hx,Hp⟩:=zh2 Z hp;have ap:=aG.out k x Z;have X:=fun(W:World) (B:Below w w W)=>rpart14_any k x p y N.part ap om (aD.out p (yF hp)) W (aw.step B);obtain⟨q,hq⟩:=zvJ (S14.right x p N.part);rw[hq,ad.out]at X;rw[ad.out]at hq;have Hq:=zC hq
        have aL:=zC (fun(x':S14.C) (z:N.comps[k]? = some x') (M:N.parts[k]? = some p) (h3:S14.right x p G=false)=>(show R=3 by
         rw[←aB.out];refine zG (fun hA=> ?_);have:=hA k x p Z hp;rw[ad.out,h3]at this;cases this))
        rw[aj]at a⊢;rw[av]at a⊢;unfold PV CV at X;have ah:some 16=some (yB p y).length:=rfl;obtain⟨PQ,ai⟩:=zvJ (yB p y);rw[ai]at X ag ah;have aE:=zC ah;have aF:=fun(W:World) (B:Below wr wr W)=>yV ag (zA V B);have aI:=fun(W:World) (B:Below wr wr W)=>yV ay (zA V B);have az:Cells wr [(⟨w,0,none⟩,.slice (some ⟨g,o,none⟩) u L.c1),(⟨w,1,none⟩,.slice (some ⟨g2,o2,none⟩) m L.c2),(⟨w,3,none⟩,G)]:=⟨a.cell 0,a.cell 1,a.cell 3,zT⟩;have ao:=Keeps.start az;have HX:=zC (fun(W:World) (B:Below wr wr W)=>X W (zA V B));have ae:=a.cell 1;simp only[zvH]at ae;clear X ai Z hp hy hq ag aw av aj ap ah ay;go_wp2_with fail;refine zvL 14 0 [(U,0,4),(U,4,1),(U,5,4),(U,9,1),(U,10,2),(zvE,12,1),(U,13,1)] (Keeps wr [(⟨w,0,none⟩,.slice (some ⟨g,o,none⟩) u L.c1),(⟨w,1,none⟩,.slice (some ⟨g2,o2,none⟩) m L.c2),(⟨w,3,none⟩,G)]) (Keeps.start az) fun Y Q4 F4 hY hF=> ?_;repeat refine mrd ?_
        repeat
         first
          | (apply zaH (by rw[hY];rfl)
             ·intro P aa;exact zdB 50 (.tmp 43) by3 g2 (o2+k*16) by3 PQ (aF P aa.1) _ Tryz.underlying50 rfl (info_P.trans aE.out)
             simp only[zvF])
          | (apply zaH (by rw[hY];rfl)
             ·intro P aa;exact zdB 56 (.tmp 38) by3 g (o+k*6) by3 (zV x) (aI P aa.1) _ Tryz.underlying56 rfl info_C14r
             simp only[zvF])
          | (apply zaH (by rw[hY];rfl)
             ·intro P aa;(try simp only[Keeps,Cells]at aa);go_simp;with_reducible rfl
             simp only[zvF])
        refine mcl ?_;refine mck ao (HX.out _ ao.1) fun w6 aR ar=> ?_;repeat refine mrd ?_
        refine mdn hF fun K hK=> ?_;clear hF hY;refine mok hK ?_;clear hK;have B7:=zA V ar.1;have aK:=a.step ar.1;cases q with
        | false=>
          obtain rfl:=aL.out x Hx.out Hp.out Hq.out;exact mf1 B7
        | true=>
          go_wp2;go_roundw
          case rel=>
           refine⟨k+1,by omega,by simp,zC (fun j c' p' hj z M=> ?_),aK,B7⟩;rcases Nat.lt_succ_iff_lt_or_eq.1 hj with h|rfl
           ·exact an.out j c' p' h z M
           ·have I:=Hx.out;rw[z]at I;cases I;have S:=Hp.out;rw[M]at S;cases S;exact Hq.out
          case measure=>simp[intOf];omega
       ·obtain rfl:k=m:=by omega
        have aH:R=0:=by
         rw[←aB.out];refine zQ (fun j c p z M=> ?_);rw[ad.out];exact an.out j c p (by have:=(List.getElem?_eq_some_iff.1 M).1;have:=am.out;omega) z M
        subst aH;have ae:=a.cell 1;simp only[zvH]at ae;exact mf1 V
   ·rw[zQ (.inr D)]at b;subst b;have I:((m:Int) != (u:Int))=false:=by simp[t]
    have S:((H:Int) != 16)=true:=by simp;omega
    clear t D;obtain⟨n,r,f,d⟩:=a.c4;go_enter Tryz.func19,Tryz.ntmps19;go_wp2_with (rw[J]);refine Q.out.mono ?_;rintro e w1 ⟨rfl,s⟩;have C:=a.step s;have A:=zA F s;clear n r f d a;have a:=C;obtain⟨n,r,f,d⟩:=a.c4;exact mf1 A
  ·rw[zQ (.inl t)]at b;subst b;have I:((m:Int) != (u:Int))=true:=by simp;omega
   clear t;obtain⟨n,r,f,d⟩:=a.c4;go_enter Tryz.func19,Tryz.ntmps19;go_wp2_with (rw[J]);refine Q.out.mono ?_;rintro e w1 ⟨rfl,s⟩;have C:=a.step s;have A:=zA F s;clear n r f d a;have a:=C;obtain⟨n,r,f,d⟩:=a.c4;exact mf1 A
 ·rw[zQ ac]at b;subst b;have e0:(E != 0)=true:=by simp[ac]
  clear ac;obtain⟨n,r,f,d⟩:=a.c4;go_enter Tryz.func19,Tryz.ntmps19;go_wp2_with (rw[J]);refine Q.out.mono ?_;rintro e w1 ⟨rfl,s⟩;have A:=zA F s;exact mf1 A
