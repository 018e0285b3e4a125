/- A part of the proof of L14l. No condition. -/
import Derived.Test.YthhgkafloejjiaaGreatZL14lbb
import Derived.Test.YthhgkafloejjiaaGreatZL14lbp
set_option linter.all false
set_option maxRecDepth 100000
set_option maxHeartbeats 2000000
namespace Go.Proofs.YthhgkafloejjiaaGreat
open Go.RowKit
theorem Kept.toX14{B:Nat}{w w':World}(h:Kept 0 B w w'):KepX (fun k=>k<B) w w':=⟨h.os,h.tape,h.output,h.size,fun k b a=>h.same k (.inr (Nat.le_of_not_lt b)) a⟩
theorem MixNew.kepX{B:Nat}{n:Int}{L:List (List Int)}{V:Value}{w w':World}(h:MixNew B n L V w)(c:KepX (fun k=>k<B) w w'):MixNew B n L V w':=by
 obtain⟨R,a,f,j,s,i,t,b,v,p⟩:=h;refine⟨R,a,f,j,s,i,t,zbY b c (fun g e=> ?_),fun r x=> ?_,p⟩
 ·obtain⟨d,_⟩:=zbP b e;show¬g<B;omega
 ·obtain⟨d,l,m,o,q,u⟩:=v r x;exact⟨d,l,m,o,q.kepX c (show¬r.b<B by omega),u⟩
theorem MixNew.shape{B:Nat}{n:Int}{L:List (List Int)}{V:Value}{w:World}(h:MixNew B n L V w):∃a b,V = .agg #[n,.slice a L.length b]:=by
 obtain⟨R,a,b,e,_,c,d,_⟩:=h;exact⟨a,b,by rw[d,c,yO]⟩
theorem MixNew.low{B b:Nat}{n:Int}{L:List (List Int)}{V:Value}{w:World}(h:MixNew B n L V w)(d:b≤B):MixNew b n L V w:=by
 obtain⟨R,a,f,g,e,c⟩:=h;exact⟨R,a,f,g,yD d e,c⟩
theorem KepX.mono0{A B:Nat}{w w':World}(h:KepX (fun k=>k<A) w w')(a:A≤B):KepX (fun k=>k<B) w w':=h.mono (fun k _ b=>zbA b a)
theorem MixNew.apart14{B b:Nat}{n:Int}{L:List (List Int)}{V:Value}{w w':World}{p:List Value}{t:TypeId}(h:MixNew B n L V w)(d:Blk w b p t)(E:¬41=t)(o:¬3=t)(i:w.grownBy w' (some b)):MixNew B n L V w':=by
 obtain⟨R,a,j,m,s,l,v,f,z,q⟩:=h;refine⟨R,a,j,m,s,l,v,zbY (X:=fun k=>k=b) f (KepX.row i (fun k e=>.inl (zI e).symm)) (fun g e=> ?_),fun r C=> ?_,q⟩
 ·rintro rfl;exact zfS f d E e
 ·obtain⟨D,A,x,u,c,y⟩:=z r C;refine⟨D,A,x,u,c.keptRow i (fun e=> ?_),y⟩;have e:=zI e;rw[e]at c;unfold Blk at c d;rw[c]at d;cases d;exact o rfl
theorem info_X14:(Tryz.prog.info? 46).map (·.size)=some 2:=by kernel_rfl
theorem info_A14:(Tryz.prog.info? 48).map (·.size)=some 1:=by kernel_rfl
theorem MapNew.kepX{B:Nat}{l:List Int}{V:Value}{w w':World}(h:MapNew B l V w)(f:KepX (fun k=>k<B) w w'):MapNew B l V w':=by
 obtain⟨b,j,e,i,a,d,c⟩:=h;exact⟨b,j,e,i,a,d,c.kepX f (fun g o e=>by cases e;show¬b<B;omega)⟩
theorem MapNew.low{B a:Nat}{l:List Int}{V:Value}{w:World}(h:MapNew B l V w)(d:a≤B):MapNew a l V w:=by
 obtain⟨b,g,e,f,c⟩:=h;exact⟨b,g,e,yD d f,c⟩
theorem MapNew.shape{B:Nat}{l:List Int}{V:Value}{w:World}(h:MapNew B l V w):∃a c,V = .agg #[.slice a l.length c]:=by
 obtain⟨b,c,e,_⟩:=h;exact⟨_,c,e⟩
theorem MapNew.lt{B:Nat}{l:List Int}{V:Value}{w:World}(h:MapNew B l V w)(n:1≤l.length):∃b a,V = .agg #[.slice (some ⟨b,0,none⟩) l.length a]∧b<w.heap.size:=by
 obtain⟨b,a,e,p,k,m,c⟩:=h;obtain⟨g,o,j,i⟩:=c (fun e=>by have h:=yG List.length e;rw[zR,List.length_nil]at h;omega);cases j;have f:∃v,(zaE l)[0]? = some v:=⟨_,zD (by simp[zaE];omega)⟩;obtain⟨v,d⟩:=f;exact⟨b,a,e,zE (i 0 v d)⟩
theorem MapNew.at{B:Nat}{l:List Int}{V:Value}{w:World}(h:MapNew B l V w):∃b a,V = .agg #[.slice (some ⟨b,0,none⟩) l.length a]∧B≤b∧(1≤l.length→b<w.heap.size):=by
 have d:=h;obtain⟨b,a,e,i,_⟩:=h;refine⟨b,a,e,i,fun g=> ?_⟩;obtain⟨k,j,c,f⟩:=d.lt g;rw[e]at c;cases c;exact f
theorem MapNew.row{B b:Nat}{l:List Int}{V:Value}{w w':World}(h:MapNew B l V w)(j:w.grownBy w' (some b))(k:∀g o n c,V = .agg #[.slice (some ⟨g,o,none⟩) n c]→g≠b):MapNew B l V w':=by
 obtain⟨g,p,e,m,a,f,d⟩:=h;exact⟨g,p,e,m,a,f,d.keptRow j (fun r q i=>by cases i;exact k _ _ _ _ e)⟩
theorem PIs.bareA{p:S14.P}{y:Lay}{w w':World}{l:List Int}{a:Option Addr}{cap:Nat}(h:PIs p y w)(i:S14.bare {p with ac:=[]}=true)(e:MapIs l (.agg #[.slice a l.length cap]) w'):PIs {p with ac:=l} {y with a4:=a,c4:=cap} w':=by
 obtain⟨b,c,f,_,g,d,j⟩:=zbQ i;have b:p.ctrs = []:=b;exact⟨by show Rd w' y.a1 (Cts p.ctrs);rw[b];exact Rd.nil _ _,h.tab.nil14 c,h.mch.nil14 g d j,h.mix.nil14 f,e⟩
theorem zpZ(c:S14.C)(N:S14.N)(L:NLay)(k g o:Nat)(p:S14.P)(y:Lay)(n f:Nat)(J:List Int)(bit:Int)(w:World)(hN:NIs N L w)(hc:N.comps[k]? = some c)(hp:N.parts[k]? = some p)(hy:L.ys[k]? = some y)(hx:k<N.ctxs.length)(pt:Nat)(au:N.part=(pt:Int))(a2:pt<4294967296)
 (hn:c.bits=(n:Int)) (bd:n≤16) (hf:c.first=(f:Int)) (aX:f<k) (a9:J.length=k) (aH:Rd w (some ⟨g,o,none⟩) (zaE J))
 (Z:S11.usable p.ac (S14.index (N.ctxs.getD k 0) pt n:Nat) (S06.squash (J.getD f 0))=0) (aN:1≤p.ac.length) (aM:bit=0∨bit=1) (av:1≤c.rate∧c.rate≤255) (ax:S14.bare {p with ac:=[]}=true) :
 Calls Tryz.prog 256 #[CV c,VV N L k (.slice (some ⟨g,o,none⟩) k k),bit] w fun e I=>∃y',e = .returned (.tuple #[PV {p with ac:=S11.update p.ac (S14.index (N.ctxs.getD k 0) pt n) (S06.squash (J.getD f 0)) bit c.rate} y',.int .i64 0])∧
  PRob 0 w.heap.size {p with ac:=S11.update p.ac (S14.index (N.ctxs.getD k 0) pt n) (S06.squash (J.getD f 0)) bit c.rate} y' I∧Below w w I:=by
 have hk:k<N.parts.length:=(List.getElem?_eq_some_iff.1 hp).1;have hP:=hN.ps k p y hp hy;have O:=zC fun(W:World) (U:Below w w W)=>zbO N L k (.slice (some ⟨g,o,none⟩) k k) rfl W (hN.step U) hk p y hp hy;have ad:=zC fun(W:World) (U:Below w w W)=>zeK N L k (.slice (some ⟨g,o,none⟩) k k) W (hN.step U) hx pt au a2 c hc n hn bd;obtain⟨i,hi⟩:=zvJ (S14.index (N.ctxs.getD k 0) pt n);rw[hi]at ad Z⊢;obtain⟨x,ar⟩:=zvJ (J.getD f 0);have ao:w.cell? ⟨g,o+f,none⟩=some (.int .i64 x):=by
  obtain⟨b,o',e,hr⟩:=aH (fun e=>by have h:=yG List.length e;rw[zR,List.length_nil]at h;omega);cases e;refine hr f _ ?_;unfold zaE;rw[yI,zD om,←ar,zK,zD om];rfl
 rw[ar]at Z⊢;have aO:=zC fun W=>zeX x W;obtain⟨q,hq⟩:=zvJ (S06.squash x);rw[hq]at aO Z⊢;obtain⟨am,cm,aV,az,aD,aw⟩:=hP.apm;obtain⟨R,X,rfl,_⟩:=aw (fun e=>by have h:=yG List.length e;rw[zR,List.length_nil]at h;omega);have ab:=zC fun(W:World) (U:Below w w W)=>update11_ok p.ac R X cm i q bit c.rate W az aD (aw.step U) Z aM av.1 av.2;obtain⟨l,hl⟩:=zvJ (S11.update p.ac i q bit c.rate);have aC:1≤l.length:=by rw[←hl,S11.update_length];exact aN
 rw[hl]at ab⊢;have a8:=zC fun(a:Option Addr) (aa:Nat) (I:World) (hm:MapIs l (.agg #[.slice a l.length aa]) I)=>hP.bareA ax hm;have aG:=zC fun(a:Option Addr) (aa:Nat)=>(show yB {p with ac:=l} {y with a4:=a,c4:=aa}=splice (yB p y) 15 [.slice a l.length aa]from rfl);have ai:(yB p y)[15]? = some (.slice (some ⟨R,X,none⟩) p.ac.length cm):=by
  have h:(ApmC p y) = [.slice (some ⟨R,X,none⟩) p.ac.length cm]:=by
   have h2:=aV;simp only[Value.agg.injEq]at h2;exact yG Array.toList h2
  have h2:(yB p y)[15]? = (ApmC p y)[0]? :=rfl;rw[h2,h];rfl
 have aj:(yB p y).length=16:=rfl;have an:=zbC p y;obtain⟨al,cA,ay,aK⟩:=zz2 p.ac.length cm;rw[ay,aK]at ab ai;unfold PV at O;unfold VV at O ad⊢;unfold PV;obtain⟨VP,aA⟩:=zvJ (yB p y);rw[aA]at O aj an aG ai;obtain⟨ae,bf,be⟩:=zh3 aj an aC;obtain⟨nc,np,nx,aL,aF,aR⟩:=zz3 N.comps.length N.parts.length N.ctxs.length;rw[aL,aF,aR,au]at O ad⊢;obtain⟨T,V,j,m,B0⟩:=zfL w c 93 [.slice L.a1 nc L.c1,.slice L.a2 np L.c2,.slice L.a3 nx L.c3,pt,k,.slice (some ⟨g,o,none⟩) k k];have a6:T.heap.size=w.heap.size+2:=by rw[←V];simp
 obtain⟨W1,af⟩:=zvJ (T.alloc (.cells zP 50));have b1:Below T T W1:=by rw[←af];exact(zJ _ _).alloc (zF _) _
 have C:Blk W1 (w.heap.size+2) (yB S14.P0 zfF) 50:=by rw[←af,←a6];exact zfH T
 have m:=m.step b1;have j:=j.step b1;have B1:=zA B0 b1;have aQ:=zE ao;have bi:(f:Int)<(k:Int):=by omega
 clear aL aF aR au B0 aA aj an hl hi hP hN hc hp hy hk hx hn aX a9 aH Z ax aM av aC aN ay hq ar aV az aD aw aK;obtain⟨aP,aE,aI,aB,first,aS⟩:=c;simp only at hf;subst hf;unfold CV;unfold zV at j V⊢;simp only at ab j V⊢;go_enter Tryz.func256,Tryz.ntmps256;go_wp2_with (first
  | (rw[V])
  | (refine zaK 50 zP zdF by3 by3 ?_;first|rw[af]|skip)
  | (refine ld68 (.tmp 4) m ?_))
 refine mnb B1 (O.out _ B1) fun Q ah B2=> ?_;have C:=C.step ah;have j:=j.step ah;have m:=m.step ah;have a1:=C.lt;obtain⟨A,W3,aq,ag⟩:=zz2 Q.heap.size (Q.alloc (.cells zP 50));have S:Below Q Q W3:=by rw[←ag];exact(zJ _ _).alloc (zF _) _
 have K8:Blk W3 A (yB S14.P0 zfF) 50:=by rw[←ag,←aq];exact zfH Q
 have C:=C.step S;have j:=j.step S;have m:=m.step S;have B3:=zA B2 S;have bm:w.heap.size+2<A:=by rw[←aq];exact a1
 clear V af b1 B1 ah B2 S O;go_wp2_with (first
  | (refine zaK 50 zP zdF by3 by3 ?_;rw[ag,aq])
  | (refine st50 (.tmp 8) (.tmp 12) VP K8 ?_ (yG some ae.out.symm) ae.out.symm bf.out;intro s E3 g3 z3;clear z3))
 have C:=C.keptRow g3 (by intro e;have:=zI e;omega);have j:=j.keptRow g3 (by intro e;have:=zI e;omega);have m:=m.keptRow g3 (by intro e;have:=zI e;omega);have B4:=B3.trans (yA g3 om B3.size);have bj:=E3.lt;have H:Cells s [(⟨w.heap.size+1,0,none⟩,.slice L.a1 nc L.c1),(⟨w.heap.size+1,1,none⟩,.slice L.a2 np L.c2),(⟨w.heap.size+1,2,none⟩,.slice L.a3 nx L.c3),(⟨w.heap.size+1,3,none⟩,pt),(⟨w.heap.size+1,4,none⟩,k),(⟨w.heap.size+1,5,none⟩,.slice (some ⟨g,o,none⟩) k k),(⟨w,0,none⟩,aP),(⟨w,1,none⟩,aE),(⟨w,2,none⟩,aI),(⟨w,3,none⟩,aB),(⟨w,4,none⟩,f),(⟨w,5,none⟩,aS),(⟨A,15,none⟩,.slice (some ⟨R,X,none⟩) al cA),(⟨g,o+f,none⟩,x)]:=⟨m.cell 0,m.cell 1,m.cell 2,m.cell 3,m.cell 4,m.cell 5,j.cell 0,j.cell 1,j.cell 2,j.cell 3,j.cell 4,j.cell 5,(E3.cell 15).trans ai,(B4.cell aQ).trans ao,zT⟩;clear g3 B3 K8 j m ag ai ao aQ;refine zaO 22 1 (.read 0 (.read 1 (.read 2 (.read 4 (.read 5 (.read 6 (.read 7 (.read 8 (.read 9 (.read 10 (.read 12 (.read 13 (.read 14 (.read 15 (.two (.one 3 (.two (.one 11 (.two (.one 16 (.read 17 (.read 18 (.read 19 (.one 20 (.one 21 .done)))))) (.one 20 (.one 16 (.read 17 (.read 18 (.read 19 (.one 21 .done)))))))) (.one 20 (.one 11 (.one 16 (.read 17 (.read 18 (.read 19 (.one 21 .done))))))))) (.one 20 (.one 3 (.one 11 (.one 16 (.read 17 (.read 18 (.read 19 (.one 21 .done))))))))))))))))))))))) _ _ o0P (fun K=>Below s s K∧Cells K [(⟨w.heap.size+1,0,none⟩,.slice L.a1 nc L.c1),(⟨w.heap.size+1,1,none⟩,.slice L.a2 np L.c2),(⟨w.heap.size+1,2,none⟩,.slice L.a3 nx L.c3),(⟨w.heap.size+1,3,none⟩,pt),(⟨w.heap.size+1,4,none⟩,k),(⟨w.heap.size+1,5,none⟩,.slice (some ⟨g,o,none⟩) k k),(⟨w,0,none⟩,aP),(⟨w,1,none⟩,aE),(⟨w,2,none⟩,aI),(⟨w,3,none⟩,aB),(⟨w,4,none⟩,f),(⟨w,5,none⟩,aS),(⟨A,15,none⟩,.slice (some ⟨R,X,none⟩) al cA),(⟨g,o+f,none⟩,x)]) zk (zU 22 _).symm zk zk zk zk (⟨(zJ _ _).drew,H⟩) (fun Y Q4 F4 hY hF=> ?_);simp only[Plan.map,ltc,ltz,ldc,ldz,zdG,zeF];repeat refine mpR ?_
 have d:Below s s s.drew:=(zJ _ _).drew;obtain⟨v,hv⟩:=zvJ s.drew;rw[hv]at d⊢;clear hv;apply share3 (F:=F4) (fun G t E u=>s.heap.size≤E∧Blk u E [.slice (some ⟨G,0,none⟩) l.length t] 48∧MapNew s.heap.size l (.agg #[.slice (some ⟨G,0,none⟩) l.length t]) u∧Below s s u)
 case b=>
  intro bh
  repeat' first
   | refine zbV ?_ ?_
   | (apply zcR (by rw[hY];rfl)
      ·intro Q bg;(try simp only[Keeps,Cells]at bg);go_simp;with_reducible rfl
      simp only[zvF])
   | (refine zfN (fun b=>.pointer (some ⟨b,0,none⟩)) [.slice none 0 0] 48 (by rw[hY];rfl) (by go_simp;first|done|fail) ?_;intro E v' aY D r;have zN:s.heap.size≤E:=by rw[←aY];exact d.size
      (try have aT:M≠E:=by have:=a7 be.out;omega);have d:=zA d r;(try have P:=P.kepX (KepX.below r));clear r;refine⟨⟨d,Cells.step d H⟩,?_⟩;simp only[zvF])
   | (apply zbR (by rw[hY];rfl)
      ·go_simp;with_reducible exact⟨rfl,rfl⟩
      refine Calls.mono (ad.out _ (zA B4 d)) ?_;rintro e v' ⟨rfl,r⟩;have d:=zA d r;(try have D:=D.step r);clear r;refine⟨_,rfl,⟨d,Cells.step d H⟩,?_⟩;simp only[zvF])
   | (apply zbR (by rw[hY];rfl)
      ·go_simp;with_reducible exact⟨rfl,rfl⟩
      refine Calls.mono (aO.out _) ?_;rintro e v' ⟨rfl,r⟩;have d:=zA d r;(try have D:=D.step r);clear r;refine⟨_,rfl,⟨d,Cells.step d H⟩,?_⟩;simp only[zvF])
   | (apply zbR (by rw[hY];rfl)
      ·go_simp;with_reducible exact⟨rfl,rfl⟩
      refine Calls.mono (ab.out _ (zA B4 d)) ?_;rintro e v' ⟨VX,rfl,P,r⟩;obtain⟨M,c9,rfl,bl,a7⟩:=P.at;(try have aT:M≠E:=by have:=D.lt;omega);have P:=P.low (d.size);have d:=zA d r;(try have D:=D.step r);clear r;refine⟨_,rfl,⟨d,Cells.step d H⟩,?_⟩;simp only[zvF])
   | (refine ps48 (.tmp 9) (.tmp 31) [.slice (some ⟨M,0,none⟩) l.length c9] D ?_;intro u ES gS sS;have B:Below s s u:=d.trans (yA gS zN d.size);refine⟨⟨B,Cells.step B H⟩,?_⟩;simp only[zvF];exact zaT (bh M c9 E u ⟨zN,ES,P.row gS (by intro g' o' n' c' e;cases e;exact aT),B⟩))
 intro M t E u hR;obtain⟨bk,ES,ak,B⟩:=hR;obtain⟨z,aJ⟩:∃z:Option Addr,some ⟨M,0,none⟩=z:=⟨_,rfl⟩;rw[aJ]at ES ak⊢;clear aJ;refine hF.out _ _ (fun K hK=> ?_);clear hF hY H d;have HK:=zC hK;clear hK;go_wp2_with fail;refine OnlyK.mk (HK.out _ _ ?_);have E8:=E3.step B;have ba:=C.step B;have BS:=zA B4 B;have aW:=aG.out z t;obtain⟨a3,a5⟩:=zh2 aW ak;have aZ:u.there A 15 (List.toArray ([.slice z l.length t]:List Value)).size:=E8.there14 (o:=15) (n:=1) (by rw[ae.out];decide);clear ak aW B;go_wp2_with (first
  | (refine ld48 (.tmp 9) ES ?_)
  | (refine wpList_store_mid by3 48 (.tmp 34) (.tmp 33) by3 A 15 (List.toArray ([.slice z l.length t]:List Value)) by3 by3 aZ info_A14 (all_oneCell_toArray by4) ?_;have E9:=E8.setCells [.slice z l.length t] 15 (by rw[ae.out];exact(by decide:15+1≤16));rw[←a3.out]at E9;have aU:=ba.keptRow (yL A [.slice z l.length t] 15 u) (by intro e;have:=zI e;omega);obtain⟨W8,ap⟩:=zvJ (u.setCells A 15 [.slice z l.length t]);have G8:u.grownBy W8 (some A):=by rw[←ap];exact yL A _ 15 u
     rw[ap]at E9 aU;have bb:u.setCells A 15 (List.toArray ([.slice z l.length t]:List Value)).toList=W8:=ap;rw[bb])
  | (refine ld50 (.tmp 8) E9 ?_)
  | (refine st50 (.tmp 6) (.tmp 35) (yB {p with ac:=l} {y with a4:=z,c4:=t}) aU ?_;intro wL EL gL sL))
 have hL:=lv50 EL;have bc:=a5.out.kepX (KepX.row G8 (fun b e=>.inl (by have:=zI e;omega)));have a0:=bc.kepX (KepX.row gL (fun b e=>.inl (by have:=zI e;omega)));have B8:=BS.trans (yA G8 om BS.size);refine rL2 hL ?_;exact⟨{y with a4:=z,c4:=t},rfl,fun I hk=>a8.out z t I (a0.kepX (hk.toX14.mono0 om)).is,B8.trans (yA gL om B8.size)⟩
theorem PIs.bareX{p:S14.P}{y:Lay}{w w':World}{n:Int}{l:List (List Int)}{a:Option Addr}{cap:Nat}(h:PIs p y w)(i:S14.bare {p with mi:=0,mw:=[]}=true)(f:MixIs n l (.agg #[n,.slice a l.length cap]) w'):PIs {p with mi:=n,mw:=l} {y with a3:=a,c3:=cap} w':=by
 obtain⟨b,c,_,e,g,d,j⟩:=zbQ i;have b:p.ctrs = []:=b;exact⟨by show Rd w' y.a1 (Cts p.ctrs);rw[b];exact Rd.nil _ _,h.tab.nil14 c,h.mch.nil14 g d j,f,h.apm.nil14 e⟩
theorem zuM(c:S14.C)(N:S14.N)(L:NLay)(k g o:Nat)(p:S14.P)(y:Lay)(n f s:Nat)(C:List Int)(bit:Int)(w:World)(hN:NIs N L w)(hc:N.comps[k]? = some c)(hp:N.parts[k]? = some p)(hy:L.ys[k]? = some y)(hx:k<N.ctxs.length)(pt:Nat)(am:N.part=(pt:Int))(aP:pt<4294967296)
 (hn:c.bits=(n:Int)) (aW:n≤16) (hf:c.first=(f:Int)) (hs:c.second=(s:Int)) (av:f≤s) (an:s<k) (aE:k≤16) (aC:C.length=k) (ay:Rd w (some ⟨g,o,none⟩) (zaE C))
 (hu:S13.usable 16 p.mi p.mw (S14.index (N.ctxs.getD k 0) pt n:Nat) ((C.drop f).take (s+1-f))=0) (aF:0≤bit∧bit≤1) (aG:1≤c.rate∧c.rate≤255) (ao:S14.bare {p with mi:=0,mw:=[]}=true) :
 Calls Tryz.prog 236 #[CV c,VV N L k (.slice (some ⟨g,o,none⟩) k k),bit] w fun e H=>∃y',e = .returned (.tuple #[PV {p with mi:=p.mi,mw:=S13.learnL p.mw (S14.index (N.ctxs.getD k 0) pt n) ((C.drop f).take (s+1-f)) bit c.rate} y',.int .i64 0])∧
  PRob 0 w.heap.size {p with mi:=p.mi,mw:=S13.learnL p.mw (S14.index (N.ctxs.getD k 0) pt n) ((C.drop f).take (s+1-f)) bit c.rate} y' H∧Below w w H:=by
 have hk:k<N.parts.length:=(List.getElem?_eq_some_iff.1 hp).1;have hP:=hN.ps k p y hp hy;have J:=zC fun(W:World) (I:Below w w W)=>zbO N L k (.slice (some ⟨g,o,none⟩) k k) rfl W (hN.step I) hk p y hp hy;have X:=zC fun(W:World) (I:Below w w W)=>zeK N L k (.slice (some ⟨g,o,none⟩) k k) W (hN.step I) hx pt am aP c hc n hn aW;have E:=zC fun(W:World)=>zsP c N L k g o f s W hf hs av an aE;obtain⟨i,hi⟩:=zvJ (S14.index (N.ctxs.getD k 0) pt n);rw[hi]at X hu⊢;have aA:((C.drop f).take (s+1-f)).length=s+1-f:=by rw[yJ,List.length_drop,aC];omega
 have M:=zC fun(W:World) (I:Below w w W)=>learn13_own p.mi p.mw y.a3 y.c3 i ((C.drop f).take (s+1-f)) (some ⟨g,o+f,none⟩) (s+1-f) bit c.rate W (hP.mix.step I) ((ay.step I).intsWindow f (s+1-f)) hu aF aG;rw[aA]at M;obtain⟨l,hl⟩:=zvJ (S13.learnL p.mw i ((C.drop f).take (s+1-f)) bit c.rate);rw[hl]at M⊢;have aB:=zC fun(a:Option Addr) (V:Nat) (H:World) (hm:MixIs p.mi l (.agg #[p.mi,.slice a l.length V]) H)=>hP.bareX ao hm;have ak:=zC fun(a:Option Addr) (V:Nat)=>(show yB {p with mi:=p.mi,mw:=l} {y with a3:=a,c3:=V}=splice (yB p y) 13 [p.mi,.slice a l.length V]from rfl);obtain⟨mi,ml,ah,ai⟩:=zz2 p.mi p.mw.length;have ab:(yB p y)[13]? = some (.int .i64 p.mi):=rfl;have aa:(yB p y)[14]? = some (.slice y.a3 p.mw.length y.c3):=rfl;have af:(yB p y).length=16:=rfl;have ag:=zbC p y;rw[ah,ai]at M;rw[ah]at aB ak ab⊢;rw[ai]at aa;unfold PV at J;unfold VV at J X E⊢;unfold PV;obtain⟨VP,aq⟩:=zvJ (yB p y);rw[aq]at J af ag ak ab aa;obtain⟨m,hm⟩:=zvJ (s+1-f);rw[hm]at E M;obtain⟨Z,aX⟩:=zh2 af ag;obtain⟨nc,np,nx,aD,ax,aI⟩:=zz3 N.comps.length N.parts.length N.ctxs.length;rw[aD,ax,aI,am]at J X E⊢;obtain⟨S,T,h,q,B0⟩:=zfL w c 92 [.slice L.a1 nc L.c1,.slice L.a2 np L.c2,.slice L.a3 nx L.c3,pt,k,.slice (some ⟨g,o,none⟩) k k];have aS:S.heap.size=w.heap.size+2:=by rw[←T];simp
 obtain⟨W1,ac⟩:=zvJ (S.alloc (.cells zP 50));have b1:Below S S W1:=by rw[←ac];exact(zJ _ _).alloc (zF _) _
 have B:Blk W1 (w.heap.size+2) (yB S14.P0 zfF) 50:=by rw[←ac,←aS];exact zfH S
 have q:=q.step b1;have h:=h.step b1;have B1:=zA B0 b1;clear aD ax aI am B0 aq af ag hm ai ah hl aA hi hP hN hc hp hy hk hx hn hf hs av an aE aC ay hu ao aF aG;obtain⟨aH,aw,az,ar,first,aJ⟩:=c;unfold CV at E⊢;unfold zV at E h T⊢;simp only at E M h T⊢;go_enter Tryz.func236,Tryz.ntmps236;go_wp2_with (first
  | (rw[T])
  | (refine zaK 50 zP zdF by3 by3 ?_;first|rw[ac]|skip)
  | (refine ld68 (.tmp 4) q ?_))
 refine mnb B1 (J.out _ B1) fun Q ae B2=> ?_;have B:=B.step ae;have h:=h.step ae;have q:=q.step ae;have aO:=B.lt;obtain⟨z,W3,al,ad⟩:=zz2 Q.heap.size (Q.alloc (.cells zP 50));have R:Below Q Q W3:=by rw[←ad];exact(zJ _ _).alloc (zF _) _
 have K8:Blk W3 z (yB S14.P0 zfF) 50:=by rw[←ad,←al];exact zfH Q
 have B:=B.step R;have h:=h.step R;have q:=q.step R;have B3:=zA B2 R;have a2:w.heap.size+2<z:=by rw[←al];exact aO
 clear T ac b1 B1 ae B2 R J;go_wp2_with (first
  | (refine zaK 50 zP zdF by3 by3 ?_;rw[ad,al])
  | (refine st50 (.tmp 8) (.tmp 12) VP K8 ?_ (yG some Z.out.symm) Z.out.symm aX.out;intro u E3 U z3;clear z3))
 have B:=B.keptRow U (by intro e;have:=zI e;omega);have h:=h.keptRow U (by intro e;have:=zI e;omega);have q:=q.keptRow U (by intro e;have:=zI e;omega);have B4:=B3.trans (yA U om B3.size);have a0:=E3.lt;have G:Cells u [(⟨w.heap.size+1,0,none⟩,.slice L.a1 nc L.c1),(⟨w.heap.size+1,1,none⟩,.slice L.a2 np L.c2),(⟨w.heap.size+1,2,none⟩,.slice L.a3 nx L.c3),(⟨w.heap.size+1,3,none⟩,pt),(⟨w.heap.size+1,4,none⟩,k),(⟨w.heap.size+1,5,none⟩,.slice (some ⟨g,o,none⟩) k k),(⟨w,0,none⟩,aH),(⟨w,1,none⟩,aw),(⟨w,2,none⟩,az),(⟨w,3,none⟩,ar),(⟨w,4,none⟩,first),(⟨w,5,none⟩,aJ),(⟨z,13,none⟩,mi),(⟨z,14,none⟩,.slice y.a3 ml y.c3)]:=⟨q.cell 0,q.cell 1,q.cell 2,q.cell 3,q.cell 4,q.cell 5,h.cell 0,h.cell 1,h.cell 2,h.cell 3,h.cell 4,h.cell 5,(E3.cell 13).trans ab,(E3.cell 14).trans aa,zT⟩;clear U B3 K8 h q ad ab aa;refine zaO 17 1 (.read 0 (.read 1 (.read 2 (.read 4 (.read 5 (.read 7 (.read 8 (.read 9 (.read 10 (.two (.one 3 (.two (.one 6 (.two (.one 11 (.read 12 (.read 13 (.read 14 (.one 15 (.one 16 .done)))))) (.one 15 (.one 11 (.read 12 (.read 13 (.read 14 (.one 16 .done)))))))) (.one 15 (.one 6 (.one 11 (.read 12 (.read 13 (.read 14 (.one 16 .done))))))))) (.one 15 (.one 3 (.one 6 (.one 11 (.read 12 (.read 13 (.read 14 (.one 16 .done)))))))))))))))))) _ _ o0P (fun K=>Below u u K∧Cells K [(⟨w.heap.size+1,0,none⟩,.slice L.a1 nc L.c1),(⟨w.heap.size+1,1,none⟩,.slice L.a2 np L.c2),(⟨w.heap.size+1,2,none⟩,.slice L.a3 nx L.c3),(⟨w.heap.size+1,3,none⟩,pt),(⟨w.heap.size+1,4,none⟩,k),(⟨w.heap.size+1,5,none⟩,.slice (some ⟨g,o,none⟩) k k),(⟨w,0,none⟩,aH),(⟨w,1,none⟩,aw),(⟨w,2,none⟩,az),(⟨w,3,none⟩,ar),(⟨w,4,none⟩,first),(⟨w,5,none⟩,aJ),(⟨z,13,none⟩,mi),(⟨z,14,none⟩,.slice y.a3 ml y.c3)]) zk (zU 17 _).symm zk zk zk zk (⟨(zJ _ _).drew,G⟩) (fun Y Q4 F4 hY hF=> ?_);simp only[Plan.map,ltc,ltz,ldc,ldz,zdG,zeF];repeat refine mpR ?_
 have d:Below u u u.drew:=(zJ _ _).drew;obtain⟨v,hv⟩:=zvJ u.drew;rw[hv]at d⊢;clear hv;apply share3 (F:=F4) (fun(r:Option Addr) (j P:Nat) x=>u.heap.size≤P∧Blk x P [mi,.slice r l.length j] 46∧MixNew u.heap.size mi l (.agg #[mi,.slice r l.length j]) x∧Below u u x)
 case b=>
  intro aZ
  repeat' first
   | refine zbV ?_ ?_
   | (apply zcR (by rw[hY];rfl)
      ·intro Q aY;(try simp only[Keeps,Cells]at aY);go_simp;with_reducible rfl
      simp only[zvF])
   | (refine zfN (fun b=>.pointer (some ⟨b,0,none⟩)) [.int .i64 0,.slice none 0 0] 46 (by rw[hY];rfl) (by go_simp;first|done|fail) ?_;intro P v' ap D t;have zN:u.heap.size≤P:=by rw[←ap];exact d.size
      have d:=zA d t;(try have O:=O.kepX (KepX.below t));clear t ap;refine⟨⟨d,Cells.step d G⟩,?_⟩;simp only[zvF])
   | (apply zbR (by rw[hY];rfl)
      ·go_simp;with_reducible exact⟨rfl,rfl⟩
      refine Calls.mono (X.out _ (zA B4 d)) ?_;rintro e v' ⟨rfl,t⟩;have d:=zA d t;(try have D:=D.step t);clear t;refine⟨_,rfl,⟨d,Cells.step d G⟩,?_⟩;simp only[zvF])
   | (apply zbR (by rw[hY];rfl)
      ·go_simp;with_reducible exact⟨rfl,rfl⟩
      refine Calls.mono (E.out _) ?_;rintro e v' ⟨rfl,t⟩;have d:=zA d t;(try have D:=D.step t);clear t;refine⟨_,rfl,⟨d,Cells.step d G⟩,?_⟩;simp only[zvF])
   | (apply zbR (by rw[hY];rfl)
      ·go_simp;with_reducible exact⟨rfl,rfl⟩
      refine Calls.mono (M.out _ (zA B4 d)) ?_;rintro e v' ⟨VX,rfl,O,t⟩;obtain⟨r,j,rfl⟩:=O.shape;have O:=O.low (d.size);have d:=zA d t;(try have D:=D.step t);clear t;refine⟨_,rfl,⟨d,Cells.step d G⟩,?_⟩;simp only[zvF])
   | (refine ps46 (.tmp 9) (.tmp 26) [mi,.slice r l.length j] D ?_;intro x ES gS sS;have A:Below u u x:=d.trans (yA gS zN d.size);refine⟨⟨A,Cells.step A G⟩,?_⟩;simp only[zvF];exact zaT (aZ r j P x ⟨zN,ES,O.apart14 D by2 by2 gS,A⟩))
 intro r j P x hR;obtain⟨a1,ES,au,A⟩:=hR;refine hF.out _ _ (fun K hK=> ?_);clear hF hY G d;have HK:=zC hK;clear hK;go_wp2_with fail;refine OnlyK.mk (HK.out _ _ ?_);have E8:=E3.step A;have aT:=B.step A;have BS:=zA B4 A;have aL:=ak.out r j;obtain⟨aQ,aR⟩:=zh2 aL au;have aM:x.there z 13 (List.toArray ([mi,.slice r l.length j]:List Value)).size:=E8.there14 (o:=13) (n:=2) (by rw[Z.out];decide);clear au aL A;go_wp2_with (first
  | (refine ld46 (.tmp 9) ES ?_)
  | (refine wpList_store_mid by3 46 (.tmp 29) (.tmp 28) by3 z 13 (List.toArray ([mi,.slice r l.length j]:List Value)) by3 by3 aM info_X14 (all_oneCell_toArray by4) ?_;have E9:=E8.setCells [mi,.slice r l.length j] 13 (by rw[Z.out];exact(by decide:13+2≤16));rw[←aQ.out]at E9;have aK:=aT.keptRow (yL z [mi,.slice r l.length j] 13 x) (by intro e;have:=zI e;omega);obtain⟨W8,aj⟩:=zvJ (x.setCells z 13 [mi,.slice r l.length j]);have G8:x.grownBy W8 (some z):=by rw[←aj];exact yL z _ 13 x
     rw[aj]at E9 aK;have aU:x.setCells z 13 (List.toArray ([mi,.slice r l.length j]:List Value)).toList=W8:=aj;rw[aU])
  | (refine ld50 (.tmp 8) E9 ?_)
  | (refine st50 (.tmp 6) (.tmp 30) (yB {p with mi:=mi,mw:=l} {y with a3:=r,c3:=j}) aK ?_;intro wL EL gL sL))
 have hL:=lv50 EL;have aV:=aR.out.kepX (KepX.row G8 (fun b e=>.inl (by have:=zI e;omega)));have aN:=aV.kepX (KepX.row gL (fun b e=>.inl (by have:=zI e;omega)));have B8:=BS.trans (yA G8 om BS.size);refine rL2 hL ?_;exact⟨{y with a3:=r,c3:=j},rfl,fun H hk=>aB.out r j H (aN.kepX (hk.toX14.mono0 om)).own.mix,B8.trans (yA gL om B8.size)⟩
