/- A part of the proof of L14l. No condition. -/
import Derived.Test.YthhgkafloejjiaaGreatZL14lbx
import Derived.Test.YthhgkafloejjiaaGreatZL14lby
set_option linter.all false
set_option maxRecDepth 100000
set_option maxHeartbeats 8000000
namespace Go.Proofs.YthhgkafloejjiaaGreat
open Go.RowKit
attribute [local irreducible] Go.wpList
structure LS(V:List Value)(N:S14.N)(G:Nat→S14.P)(w:World)(D NB g1 g2 g3 c1 c2 c3:Nat)(pt:Int)(k:Nat)(ys:List Lay)(W:World):Prop where
 ly:ys.length=N.parts.length
 o1:W.ownsRow D 56 6 (.slice (some ⟨g1,0,none⟩) N.comps.length c1) N.comps.length (zfG N.comps)
 o2:W.ownsRow D 50 16 (.slice (some ⟨g2,0,none⟩) N.parts.length c2) N.parts.length (PCs (S14.parts1 G N.parts k) ys)
 o3:W.ownsRow D 85 1 (.slice (some ⟨g3,0,none⟩) N.ctxs.length c3) N.ctxs.length (zlZ N.ctxs)
 nb:Blk W NB [.slice (some ⟨g1,0,none⟩) N.comps.length c1,.slice (some ⟨g2,0,none⟩) N.parts.length c2,.slice (some ⟨g3,0,none⟩) N.ctxs.length c3,pt] 26
 rb:Blk W (w.heap.size+1) [.slice none 0 0,.slice none 0 0,.slice none 0 0,.int .i64 0] 26
 ps:∀(j:Nat) (p:S14.P) (y:Lay),(S14.parts1 G N.parts k)[j]? = some p→ys[j]? = some y→PRobX (fun b=>b=w.heap.size+1∨b=NB∨b=g2) p y W
 bl:Below w w W
 vb:Blk W w V 26
theorem LS.step{V:List Value}{N:S14.N}{G:Nat→S14.P}{w W i:World}{D c l f g e d b k:Nat}{pt:Int}{ys:List Lay}(h:LS V N G w D c l f g e d b pt k ys W)(a:Below W W i):LS V N G w D c l f g e d b pt k ys i:=
 ⟨h.ly,yM (B:=0) h.o1 a,yM (B:=0) h.o2 a,yM (B:=0) h.o3 a,h.nb.step a,h.rb.step a,fun j p y n m=>(h.ps j p y n m).kep (KepX.below a),zA h.bl a,h.vb.step a⟩
theorem LS.put{V:List Value}{N:S14.N}{G:Nat→S14.P}{w W:World}{D d l a m s r q k:Nat}{pt:Int}{ys:List Lay}(h:LS V N G w D d l a m s r q pt k ys W)(n:k<N.parts.length)(B:w.heap.size+1<a)(C:a<d)(v:l≠a)(x:a≠m){y:Lay}(A:PRobX (fun b=>b=w.heap.size+1∨b=d∨b=a) (G k) y W) :
 LS V N G w D d l a m s r q pt (k+1) (ys.set k y) (W.setCells a (k*16) (yB (G k) y)):=by
 have o:=yL a (yB (G k) y) (k*16) W;have c:KepX (fun b=>b=a) W (W.setCells a (k*16) (yB (G k) y)):=KepX.row o (fun b e=>.inl (zI e).symm);have t:KepX (fun b=>b=w.heap.size+1∨b=d∨b=a) W (W.setCells a (k*16) (yB (G k) y)):=KepX.row o (fun b e=>.inl (.inr (.inr (zI e).symm)));refine⟨by rw[yH];exact h.ly,zbY h.o1 c (fun g e=>by have e:some l=some g:=e;cases e;exact v),?_,zbY h.o3 c (fun g e=>by have e:some m=some g:=e;cases e;exact fun e=>x e.symm),h.nb.kepX c (show¬d=a by omega),h.rb.kepX c (show¬w.heap.size+1=a by omega),fun j p z i f=> ?_,c.toBelow h.bl (fun b e=>by have e:b=a:=e;omega),h.vb.kepX c (show¬w.heap.size=a by omega)⟩
 ·rw[S14.parts1,zvA _ _ _ _ _ (by rw[S14.parts1_length];exact h.ly) (by rw[S14.parts1_length];exact n)];exact zgT h.o2 (by show k*16+16≤N.parts.length*16;omega)
 ·rw[S14.parts1,List.getElem?_set]at i;rw[List.getElem?_set]at f;by_cases u:k=j
  ·subst u;rw[zQ rfl,zQ (by rw[S14.parts1_length];exact n)]at i;rw[zQ rfl,zQ (by rw[h.ly];exact n)]at f;cases i;cases f;exact A.kep t
  ·rw[zG u]at i f;exact(h.ps j p z i f).kep t
theorem LS.setp{V:List Value}{N:S14.N}{G:Nat→S14.P}{w W:World}{D a c f i o n m k:Nat}{pt:Int}{ys:List Lay}(h:LS V N G w D a c f i o n m pt k ys W)(t:w.heap.size+1<c∧w.heap.size+1<f∧w.heap.size+1<i∧c<a∧f<a∧i<a)(q:Int) :
 LS V N G w D a c f i o n m q k ys (W.setCell ⟨a,3,none⟩ (.int .i64 q)):=by
 have l:=yZ W a 3 (.int .i64 q);have d:KepX (fun b=>b=a) W (W.setCell ⟨a,3,none⟩ (.int .i64 q)):=KepX.row l (fun b e=>.inl (zI e).symm)
 exact⟨h.ly,zbY h.o1 d (fun g e=>by have e:some c=some g:=e;cases e;show¬c=a;omega),zbY h.o2 d (fun g e=>by have e:some f=some g:=e;cases e;show¬f=a;omega),zbY h.o3 d (fun g e=>by have e:some i=some g:=e;cases e;show¬i=a;omega),
  h.nb.set 3 _,h.rb.kepX d (show¬w.heap.size+1=a by omega),fun j p y s r=>(h.ps j p y s r).kep (KepX.row l (fun b e=>.inl (.inr (.inl (zI e).symm)))),d.toBelow h.bl (fun b e=>by have e:b=a:=e;omega),h.vb.kepX d (show¬w.heap.size=a by omega)⟩
theorem LS.nis{V:List Value}{N:S14.N}{G:Nat→S14.P}{w W:World}{D i c d f q n m k:Nat}{pt:Int}{ys:List Lay}(h:LS V N G w D i c d f q n m pt k ys W)(v:w.heap.size+1<c∧w.heap.size+1<d∧w.heap.size+1<f∧c<i∧d<i∧f<i)
 (u:∀x∈N.ctxs,x<4294967296) (a:N.comps.length≤q∧q≤maxLen∧N.parts.length≤n∧n≤maxLen∧N.ctxs.length≤m∧m≤maxLen) :
 ∀l,KepX (fun b=>b=w.heap.size+1∨b=i) W l→NIs ⟨N.comps,S14.parts1 G N.parts k,N.ctxs,pt⟩ ⟨some ⟨c,0,none⟩,q,some ⟨d,0,none⟩,n,some ⟨f,0,none⟩,m,ys⟩ l:=fun l r=>by
 unfold maxLen at a;exact
 {rc:=(Rd.of_owns h.o1).kepX r (fun g o e=>by cases e;show¬(c=_∨c=_);omega)
  rp:=(Rd.of_owns h.o2).kepX r (fun g o e=>by cases e;show¬(d=_∨d=_);omega)
  rx:=(Rd.of_owns h.o3).kepX r (fun g o e=>by cases e;show¬(f=_∨f=_);omega)
  ly:=by rw[S14.parts1_length];exact h.ly
  ps:=fun j p y t s=>h.ps j p y t s l (r.mono (fun b _ e=>e.elim .inl (fun e=>.inr (.inl e))))
  xs:=u
  l1:=⟨a.1,a.2.1⟩
  l2:=⟨by rw[S14.parts1_length];exact a.2.2.1,a.2.2.2.1⟩
  l3:=⟨a.2.2.2.2.1,a.2.2.2.2.2⟩}
theorem zuF{N:S14.N}{t:Nat}(A:GoodN N t)(ht:t<65536){bit:Int}(hb:bit=0∨bit=1)(L:NLay)(w:World)(Q:NIs N L w)(bh:∀p∈N.parts,p.ctrs.length≤9223372036854775807) :
 Calls Tryz.prog 7 #[NV N L,bit] w fun e w'=>∃L',e = .returned (.tuple #[NV (S14.learnN N bit) L',.int .i64 0])∧NIs (S14.learnN N bit) L' w'∧Below w w w':=by
 have h0:=A.net;obtain⟨aX,ay,aE,aQ,bf,_⟩:=S14.checkNet_zero h0;obtain⟨aA,aw,_⟩:=S14.check_zero aX;obtain⟨W1,R⟩:=zvJ ((w.alloc (.cells (zaN N L).toArray 26)).alloc (.cells zN 26));have k1:Blk W1 w (zaN N L) 26:=by rw[←R];exact(Blk.new w _ _).alloc _
 have r1:Blk W1 (w.heap.size+1) [.slice none 0 0,.slice none 0 0,.slice none 0 0,.int .i64 0] 26:=by
  rw[←R];have h:=Blk.new (w.alloc (.cells (zaN N L).toArray 26)) [.slice none 0 0,.slice none 0 0,.slice none 0 0,.int .i64 0] 26;rwa[zY]at h
 have B1:Below w w W1:=by rw[←R];exact((zJ _ _).alloc (zF _) _).alloc by1 _
 have hC:=zfQ N L W1 (Q.step B1) om bh;rw[h0]at hC;have aj:=fun(W:World) (hW:Below w w W)=>zrQ N L W (Q.step hW) h0 _ rfl (S14.outs_in (zqG N L w Q h0));have ar:=fun(W:World) (hW:Below w w W)=>rcopy14_any N L W (Q.step hW) ⟨aA,aw⟩ ay aE;have an:=fun(k:Nat) (c:S14.C) (hc:N.comps[k]? = some c) (W:World) (hW:Below w w W) (Z oa cap:Nat) (hrd:Rd W (some ⟨Z,oa,none⟩) (zaE (S14.outs (S14.outA N) N.comps.length))) (hcap:N.comps.length≤cap)=>rlearn14_all A ht hb L w Q k c hc W hW Z oa cap hrd hcap;obtain⟨HN,C,HK⟩:=zh3 Q (zZ A (zZ ay (zZ aE (zZ aA aw)))) (zZ aQ bf);unfold NV at hC aj ar an;have v0:(zaN N L)[0]? = some (.slice L.a1 N.comps.length L.c1):=rfl;have v3:(zaN N L)[3]? = some (.int .i64 N.part):=rfl;have ah:=zC (show some 4=some (zaN N L).length from rfl);obtain⟨V,hV⟩:=zvJ (zaN N L);rw[hV]at hC k1 R v0 v3 ah;simp only[hV]at aj ar an;obtain⟨HC,aM,a6,bo⟩:=zh4 hC aj ar an;unfold NV;rw[hV];unfold zN at R;clear hC aj ar an Q bh h0 aX A ay aE aA aw aQ bf hV ht;have e0:=k1.lt;go_enter Tryz.func7,Tryz.ntmps7;go_wp2_with (first
  | (rw[R])
  | (refine ld26 (.tmp 2) k1 ?_ ah.out)
  | fail)
 refine HC.out.mono ?_;rintro e w2 ⟨rfl,aq⟩;have k2:=k1.step aq;have r2:=r1.step aq;have B2:=zA B1 aq;clear k1 r1 R B1 aq HC
 go_upto_region 4 with fail
 go_cut [23] (fun s F=>s = .bool false∧w2=F)
 case first=>
  by_cases h:bit=0
  ·have bu:(bit != 0)=false:=by simp[h]
   clear h;go_wp2
   go_meet
   case rel=>exact⟨rfl,rfl⟩
  ·have bu:(bit != 0)=true:=by simp[h]
   have be:(bit != 1)=false:=by simp;omega
   clear h;go_wp2
   go_meet
   case rel=>exact⟨rfl,rfl⟩
 case rest=>
  obtain⟨rfl,rfl⟩:=hcut;go_wp2_with (first
   | (refine ld26 (.tmp 2) k2 ?_ ah.out)
   | fail)
  refine(aM.out _ B2).mono ?_;rintro e w3 ⟨ao,co,rfl,ax,bv,ap⟩;have k3:=k2.step ap;have r3:=r2.step ap;have B3:=zA B2 ap;obtain⟨x0,a8⟩:∃x,(zaE (S14.outs (S14.outA N) N.comps.length))[0]? = some x:=⟨_,zD (by rw[zR,S14.outs_length];have:=C.out;omega)⟩;obtain⟨Z,oa,rfl,aK⟩:=ax (fun e=>by have u:=yG List.length e;rw[zR,S14.outs_length,List.length_nil]at u;have:=C.out;omega);have bn:Z<w3.heap.size:=zE (aK 0 x0 a8);have a4:=zC ax;clear aK a8;clear k2 r2 B2 ap aM ax;go_wp2_with (first
   | (refine ld26 (.tmp 2) k3 ?_ ah.out)
   | fail)
  refine(a6.out _ B3).mono ?_;rintro e G ⟨a1,m,a2,i,a3,l,rfl,ai,X,ac,ad⟩;have B4:=zA B3 ad;have r4:=r3.step ad;have k4:=k3.step ad;have bc:=zC (a4.out.step ad);unfold OwnP at X;unfold zaN;obtain⟨d,rfl,bt,bE,bj,aO⟩:=zcH ai C.out.2.2.2.1;obtain⟨a,rfl,bG,bB,a5,aN⟩:=zcH X (by rw[C.out.2.1];exact C.out.2.2.2.1);obtain⟨f,rfl,bs,bq,aG,bg⟩:=zcH ac (by rw[C.out.2.2.1];decide);have aY:d≠a:=zeY ai X by2;have a0:d≠f:=zeY ai ac by2;have aS:a≠f:=zeY X ac by2;have e3:=r3.lt;have e4:=Blk.new G [.slice none 0 0,.slice none 0 0,.slice none 0 0,.int .i64 0] 26;have ag:=(zJ G.heap.size G).alloc (zF _) (Obj.cells #[.slice none 0 0,.slice none 0 0,.slice none 0 0,.int .i64 0] 26);go_wp2_with (first
   | (refine st26 (.tmp 8) (.tmp 28) [.slice (some ⟨d,0,none⟩) N.comps.length m,.slice (some ⟨a,0,none⟩) N.parts.length i,.slice (some ⟨f,0,none⟩) N.ctxs.length l,N.part] e4 ?_;intro J k5 bd s5)
   | fail)
  have r:Below G G J:=ag.trans (yA bd (zF _) by1)
  have S5:LS V N (S14.learnA N bit) w w3.heap.size G.heap.size d a f m i l N.part 0 L.ys J:=⟨HN.out.ly,yM (B:=0) ai r,yM (B:=0) X r,yM (B:=0) ac r,k5,r4.step r,fun j p y u h2=>(HN.out.ps j p y u h2).robX (zA B4 r) (fun b e=>by
   have u:=B4.size;have h2:=B3.size;rcases e with e|e|e<;>omega),zA B4 r,k4.step r⟩
  obtain⟨aL,bC,HE,S⟩:=zh4 S5 (bc.out.step r) (zZ aY (zZ a0 aS)) (show w.heap.size+1<d∧w.heap.size+1<a∧w.heap.size+1<f∧d<G.heap.size∧a<G.heap.size∧f<G.heap.size from by omega);have bz:=zC (zZ bj (zZ aO (zZ a5 (zZ aN (zZ aG bg)))));obtain⟨D,n,hD,aB⟩:=zz2 w3.heap.size G.heap.size;rw[hD,aB]at aL;rw[hD]at bn;have bN:D≤a:=by rw[←hD];omega
  rw[aB]at S⊢;have bx:w.heap.size≤D:=by rw[←hD];exact B3.size
  clear ai X ac r4 k4 B4 B3 k3 r3 ad a4 bc ag e4 k5 bd s5 r S5 a6 aY a0 aS bt bE bj aO bG bB a5 aN bs bq aG bg hD aB;go_wp2_with fail;go_loopw [9] (fun kk wr=>∃(k:Nat) (I:List Lay),k≤N.comps.length∧kk = .int .i64 (k:Int)∧Hid (LS V N (S14.learnA N bit) w D n d a f m i l N.part k I wr)∧Hid (Rd wr (some ⟨Z,oa,none⟩) (zaE (S14.outs (S14.outA N) N.comps.length)))) (fun kk _=>N.comps.length-(intOf kk).toNat)
  case atStart=>exact⟨0,L.ys,by omega,rfl,aL,bC⟩
  case round=>
   obtain⟨k,I,hk,rfl,H,aD⟩:=hrel;have kV:=H.out.vb;have x0:wr.cell? ⟨w,0,none⟩=some (.slice L.a1 N.comps.length L.c1):=(kV.cell 0).trans v0;by_cases aH:k<N.comps.length
   ·have bK:(k:Int)<(N.comps.length:Int):=by omega
    obtain⟨c,hc⟩:∃c,N.comps[k]? = some c:=⟨_,zD aH⟩;have HL:=zC (bo.out k c hc wr H.out.bl Z oa co aD.out bv);have bM:(k:Int)<(N.parts.length:Int):=by rw[C.out.2.1];omega
    have bJ:(0:Int)≤(k:Int):=by omega
    have bH:IntKind.i64.wrap ((k:Int)+1)=(k:Int)+1:=IntWalk.i64_in _ (by have:=C.out.2.2.2.2;omega);clear hc;go_wp2_with (first
     | (refine ld26 (.tmp 2) kV ?_ ah.out)
     | fail)
    refine HL.out.mono ?_;rintro e J ⟨y',rfl,ba,r⟩;have S5:=H.out.step r;have bb:=aD.out.step r;have bl:=Blk.new J [.slice none 0 0,.int .i64 0,.slice none 0 0,.int .i64 0,.int .i64 0,.int .i64 0,.slice none 0 0,.slice none 0 0,.int .i64 0,.int .i64 0,.int .i64 0,.int .i64 0,.slice none 0 0,.int .i64 0,.slice none 0 0,.slice none 0 0] 50;have ag:=(zJ J.heap.size J).alloc (zF _) (Obj.cells #[.slice none 0 0,.int .i64 0,.slice none 0 0,.int .i64 0,.int .i64 0,.int .i64 0,.slice none 0 0,.slice none 0 0,.int .i64 0,.int .i64 0,.int .i64 0,.int .i64 0,.slice none 0 0,.int .i64 0,.slice none 0 0,.slice none 0 0] 50);obtain⟨VP,ab⟩:=zvJ (yB (S14.learnA N bit k) y');have aZ:16=VP.length:=by rw[←ab];rfl
    have bk:∀v∈VP,v.oneCell'=true:=by rw[←ab];exact zbC _ _
    obtain⟨bD,af,a7,HX⟩:=zh4 ab aZ bk (zZ S5 (zZ bb (zZ ba r)));have br:=zC ag;unfold PV;rw[ab];clear S5 bb ba r ag ab aZ bk kV x0 HL;go_wp2_with (first
     | (refine st50 (.tmp 10) (.tmp 42) VP bl ?_ (yG some af.out) af.out a7.out;intro M k6 aJ s6;have aF:Below J J M:=br.out.trans (yA aJ (zF _) by1);have E:=HX.out.1.step aF;have n1:M.cell? ⟨n,1,none⟩=some (.slice (some ⟨a,0,none⟩) N.parts.length i):=E.nb.cell 1;have K:=zC (zZ E aF);have bp:M.there a (k*16) VP.toArray.size:=zdL E.o2 (by rw[zfX,←af.out];have:=C.out.2.1;omega);clear E aJ s6 aF)
     | (refine ld50 (.tmp 10) k6 ?_ (yG some af.out))
     | (refine wpList_store_mid by3 50 (.tmp 52) (.tmp 51) by3 a (k*16) VP.toArray by3 by3 bp (info_P.trans (yG some (af.out.trans List.size_toArray.symm))) (all_oneCell_toArray a7.out) ?_)
     | fail)
    have U:=S.out;have bw:=K.out.1
    have bm:PRobX (fun b=>b=w.heap.size+1∨b=n∨b=a) (S14.learnA N bit k) y' M:=(HX.out.2.2.1.kep (KepX.below K.out.2)).change (fun b _ e=>by
     have u:=H.out.rb.lt;have h2:=H.out.nb.lt;rcases e with e|e|e<;>omega)
    have aV:=bw.put (by rw[C.out.2.1];exact aH) U.2.1 U.2.2.2.2.1 HE.out.1 HE.out.2.2 bm;rw[bD.out]at aV;refine⟨⟨k+1,I.set k y',by omega,by go_num,zC aV,zC ((HX.out.2.1.step K.out.2).keptRow (yL a VP (k*16) M) (fun g o e=>by cases e;omega))⟩,by simp[intOf];omega⟩
   ·obtain rfl:k=N.comps.length:=by omega
    obtain⟨P,hP⟩:=zvJ (2*N.part+bit);have bA:2≤P∧P≤511:=by have:=HK.out;omega
    have bL:=HK.out;have x3:wr.cell? ⟨w,3,none⟩=some (.int .i64 N.part):=(kV.cell 3).trans v3;have y3:wr.cell? ⟨n,3,none⟩=some (.int .i64 N.part):=H.out.nb.cell 3;have f3:=H.out.nb.free 3;have E:=H.out.setp S.out P;obtain⟨M,az⟩:=zvJ (wr.setCell ⟨n,3,none⟩ (.int .i64 P));rw[az]at E;have z3:M.cell? ⟨n,3,none⟩=some (.int .i64 P):=E.nb.cell 3;have fz:=E.nb.free 3;have K:=zC E;obtain⟨q,hq⟩:=zvJ (S14.next N.part bit);have aW:q=if P>255 then 1 else P:=by rw[←hq,←hP];rfl
    have T:=zC (zZ hq aW);clear E H aD hq aW
    go_upto_if 61 with(first|(rw[az])|fail)
    go_cut [] (fun F=>Hid (LS V N (S14.learnA N bit) w D n d a f m i l q N.comps.length I F))
    case first=>
     by_cases bI:256≤P
     ·have aa:=zC (K.out.setp S.out 1);have ae:q=1:=by rw[T.out.2,zQ om]
      have aC:=zC ae;clear ae;go_wp2
      go_meet
      case rel=>rw[aC.out];exact aa
     ·have ae:q=P:=by rw[T.out.2,zG om]
      have aC:=zC ae;clear ae;go_wp2
      go_meet
      case rel=>rw[aC.out];exact K
    case rest=>
     have aa:=zC hcut.out;have q3:wc.cell? ⟨n,3,none⟩=some (.int .i64 q):=aa.out.nb.cell 3;have aP:1≤q∧q≤255:=by rw[T.out.2];split<;>omega
     obtain⟨O,hO⟩:∃O:Bool,decide (q=1∨16≤q∧q≤31)=O:=⟨_,rfl⟩;have HO:=zC hO;clear hcut K x3 y3 f3 z3 fz az hO hP bA kV x0
     go_upto_region 18 with fail
     go_cut [70] (fun s F=>s = .bool O∧Hid (LS V N (S14.learnA N bit) w D n d a f m i l q N.comps.length I F))
     case first=>
      by_cases u:q=1
      ·have be:(q==1)=true:=by simp[u]
       have ho:true=O:=by rw[←HO.out,zO (.inl u)]
       have Ho:=zC ho;clear u ho;go_wp2
       go_meet
       case rel=>exact⟨by rw[Ho.out],aa⟩
      ·have be:(q==1)=false:=by simp[u]
       have ho:S14.has q 16 31=O:=by rw[←HO.out];unfold S14.has;rw[decide_eq_decide];omega
       obtain⟨Ho,HB⟩:=zh2 ho (zbB q 16 31 wc);clear u ho;go_wp2_with fail;refine HB.out.mono ?_;rintro e w8 ⟨rfl,aU⟩;have z:=zC (aa.out.step aU);clear aU HB;go_wp2
       go_meet
       case rel=>exact⟨by rw[Ho.out],z⟩
     case rest=>
      obtain⟨rfl,av⟩:=hcut;have n8:=av.out.nb;have z:=zC av.out;clear av q3 aa
      go_upto_if 70 with fail
      go_cut [] (fun F=>∃al,Hid (zaN (S14.learnN N bit) ⟨some ⟨d,0,none⟩,m,some ⟨a,0,none⟩,i,some ⟨f,0,none⟩,l,al⟩ = [.slice (some ⟨d,0,none⟩) N.comps.length m,.slice (some ⟨a,0,none⟩) N.parts.length i,.slice (some ⟨f,0,none⟩) N.ctxs.length l,.int .i64 q]∧(∀Y,KepX (fun b=>b=w.heap.size+1∨b=n) F Y→NIs (S14.learnN N bit) ⟨some ⟨d,0,none⟩,m,some ⟨a,0,none⟩,i,some ⟨f,0,none⟩,l,al⟩ Y)∧Blk F n [.slice (some ⟨d,0,none⟩) N.comps.length m,.slice (some ⟨a,0,none⟩) N.parts.length i,.slice (some ⟨f,0,none⟩) N.ctxs.length l,q] 26∧Blk F (w.heap.size+1) [.slice none 0 0,.slice none 0 0,.slice none 0 0,.int .i64 0] 26∧Below w w F))
      case first=>
       have au:S14.learned N bit=⟨N.comps,S14.parts1 (S14.learnA N bit) N.parts N.comps.length,N.ctxs,q⟩:=by unfold S14.learned;rw[T.out.1]
       have ak:=z.out.nis S.out HN.out.xs bz.out;cases O with
       | false=>
         have a9:=of_decide_eq_false HO.out;have hl:S14.learnN N bit=⟨N.comps,S14.parts1 (S14.learnA N bit) N.parts N.comps.length,N.ctxs,q⟩:=by
          unfold S14.learnN;rw[T.out.1,zG a9,au]
         have HF:Hid (zaN (S14.learnN N bit) ⟨some ⟨d,0,none⟩,m,some ⟨a,0,none⟩,i,some ⟨f,0,none⟩,l,I⟩ = [.slice (some ⟨d,0,none⟩) N.comps.length m,.slice (some ⟨a,0,none⟩) N.parts.length i,.slice (some ⟨f,0,none⟩) N.ctxs.length l,.int .i64 q]∧(∀Y,KepX (fun b=>b=w.heap.size+1∨b=n) wc Y→NIs (S14.learnN N bit) ⟨some ⟨d,0,none⟩,m,some ⟨a,0,none⟩,i,some ⟨f,0,none⟩,l,I⟩ Y)∧Blk wc n [.slice (some ⟨d,0,none⟩) N.comps.length m,.slice (some ⟨a,0,none⟩) N.parts.length i,.slice (some ⟨f,0,none⟩) N.ctxs.length l,q] 26∧Blk wc (w.heap.size+1) [.slice none 0 0,.slice none 0 0,.slice none 0 0,.int .i64 0] 26∧Below w w wc):=by
          rw[hl];exact zC ⟨by unfold zaN;simp only[S14.parts1_length],ak,n8,z.out.rb,z.out.bl⟩
         clear ak a9 hl au;go_wp2_with fail
         go_meet
         case rel=>exact⟨_,HF⟩
       | true=>
         have aR:=zbE HO.out;have hl:S14.learnN N bit=S14.opened ⟨N.comps,S14.parts1 (S14.learnA N bit) N.parts N.comps.length,N.ctxs,q⟩:=by
          unfold S14.learnN;rw[T.out.1,zQ aR,au]
         have A:=C.out;have U:=S.out
         have HT:=zrR w ⟨N.comps,S14.parts1 (S14.learnA N bit) N.parts N.comps.length,N.ctxs,q⟩ A.2.2.2.1 A.2.2.2.2 (S14.kinds_of A.1.check) (by rw[S14.parts1_length];exact A.2.1) A.2.2.1 aP.1 aP.2
          ⟨some ⟨d,0,none⟩,m,some ⟨a,0,none⟩,i,some ⟨f,0,none⟩,l,I⟩ wc (fun b=>b=w.heap.size+1∨b=n) z.out.bl (fun b e=>by
            have u:=z.out.rb.lt;have h2:=z.out.nb.lt;rcases e with e|e<;>omega) ak
          (by show wc.ownsRow w.heap.size 50 16 (.slice (some ⟨a,0,none⟩) (S14.parts1 (S14.learnA N bit) N.parts N.comps.length).length i) (S14.parts1 (S14.learnA N bit) N.parts N.comps.length).length _;rw[S14.parts1_length];exact zeS z.out.o2 bx)
          (fun j p y u h2=>(z.out.ps j p y u h2).change (fun b _ e=>by
            rcases e with(e|e)|e
            ·exact .inl e
            ·exact .inr (.inl e)
            ·exact .inr (.inr (zI e).symm)))
          (fun b e h=>by
            have e:a=b:=zI e;rcases h with h|h<;>omega)
          (fun Y hk=>⟨(Rd.of_owns z.out.o1).kepX hk (fun g o e h=>by
            cases e;rcases h with(h|h)|h
            ·omega
            ·omega
            ·exact HE.out.1 (zI h).symm),(Rd.of_owns z.out.o3).kepX hk (fun g o e h=>by
            cases e;rcases h with(h|h)|h
            ·omega
            ·omega
            ·exact HE.out.2.2 (zI h))⟩)
         rw[←hl]at HT;unfold NV zaN at HT;simp only[S14.parts1_length]at HT;obtain⟨bi,Hl⟩:=zh2 HT hl;clear HT hl aR au ak A U;go_wp2_with (first
          | (refine ld26 (.tmp 8) n8 ?_)
          | fail)
         refine bi.out.mono ?_;rintro e w9 ⟨rfl,bF,aT,aI,am⟩;have U:=S.out;have n9:=n8.kepX am (fun e=>by have e:some a=some n:=e;have:=zI e;omega);have r9:=z.out.rb.kepX am (fun e=>by have e:some a=some (w.heap.size+1):=e;have:=zI e;omega);have B9:=am.toBelow z.out.bl (fun b e=>by have e:some a=some b:=e;have:=zI e;omega);have HF:=zC (zZ aT (zZ aI (zZ n9 (zZ r9 B9))));clear aT aI am n9 r9 B9 bi U;go_wp2_with fail
         go_meet
         case rel=>exact⟨bF,by unfold zaN;exact HF⟩
      case rest=>
       obtain⟨al,hF⟩:=hcut;have n9:=hF.out.2.2.1;have r9:=hF.out.2.2.2.1;go_wp2_with (first
        | (refine ld26 (.tmp 8) n9 ?_)
        | (refine st26 (.tmp 4) (.tmp 73) [.slice (some ⟨d,0,none⟩) N.comps.length m,.slice (some ⟨a,0,none⟩) N.parts.length i,.slice (some ⟨f,0,none⟩) N.ctxs.length l,q] r9 ?_;intro wR ER gR sR)
        | fail)
       have hL:=lv26 ER;refine rL2 hL ?_;have hB:=hF.out.2.2.2.2;refine⟨⟨some ⟨d,0,none⟩,m,some ⟨a,0,none⟩,i,some ⟨f,0,none⟩,l,al⟩,yG (fun v=>Ending.returned (.tuple #[.agg (List.toArray v),.int .i64 0])) hF.out.1.symm,hF.out.2.1 _ (KepX.row gR (fun b e=>.inl (.inl (zI e).symm))),hB.trans (yA gR (Nat.le_succ _) hB.size)⟩
