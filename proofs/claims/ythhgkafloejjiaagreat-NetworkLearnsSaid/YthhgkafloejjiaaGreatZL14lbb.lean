/- A part of the proof of L14l. No condition. -/
import Derived.Deep.RegionHeld3
import Derived.Test.YthhgkafloejjiaaGreatZL14lap
import Derived.Test.YthhgkafloejjiaaGreatZL14lax
set_option linter.all false
set_option maxRecDepth 100000
set_option maxHeartbeats 4000000
namespace Go.Proofs.YthhgkafloejjiaaGreat
open Go.RowKit
theorem ztG:Elems Tryz.prog 44 41 1 24 [.slice none 0 0]:=⟨Tryz.underlying44,by kernel_rfl,rfl,by decide⟩
structure OR13 where
 b:Nat
 cap:Nat
 l:List Int
def OR13.row(r:OR13):Row13:=⟨some ⟨r.b,0,none⟩,r.cap,r.l⟩
def OR13.head(r:OR13):Value:=.slice (some ⟨r.b,0,none⟩) r.l.length r.cap
def OR13.ok(w:World)(base:Nat)(r:OR13):Prop:=base≤r.b∧r.l.length≤r.cap∧r.cap≤9223372036854775807∧∃cs,Blk w r.b cs 3∧cs.take r.l.length=zaE r.l
theorem OR13.ok.lt{w:World}{b:Nat}{r:OR13}(h:r.ok w b):r.b<w.heap.size:=by obtain⟨_,_,_,c,a,_⟩:=h;exact a.lt
theorem OR13.ok.step{w w':World}{a:Nat}{r:OR13}(h:r.ok w a)(g:Below w w w'):r.ok w' a:=by
 obtain⟨i,b,d,f,c,e⟩:=h;exact⟨i,b,d,f,c.step g,e⟩
theorem OR13.ok.grown{w w':World}{g base' n cap:Nat}{e:TypeId}{a:Option Addr}{xs:List Value}{r:OR13}(h:r.ok w g)(l:w.ownsRow base' e 1 (.slice a n cap) n xs)(s:¬e=3)(o:w.grownBy w' (Value.slice a n cap).ownBlock):r.ok w' g:=by
 obtain⟨q,i,j,k,b,m⟩:=h;refine⟨q,i,j,k,?_,m⟩;have p:(Value.slice a n cap).ownBlock≠some r.b:=by
  intro d;rcases l.2 with⟨c,_⟩|⟨v,u,t,c,_,f,_⟩
  ·simp at c;obtain⟨rfl,_,_⟩:=c;simp[Value.ownBlock]at d
  ·simp only[Value.slice.injEq]at c;obtain⟨rfl,_,_⟩:=c;simp[Value.ownBlock]at d;subst d;unfold Blk at b;rw[b]at f;simp at f;exact s f.2.symm
 unfold Blk at b⊢;rw[o.block r.b (Array.getElem?_eq_some_iff.1 b).1 (Ne.symm p)];exact b
theorem OR13.ok.other{w:World}{d c i:Nat}{l:List Value}{t:TypeId}{v:Value}{r:OR13}(h:r.ok w d)(b:Blk w c l t)(g:¬t=3):r.ok (w.setCell ⟨c,i,none⟩ v) d:=by
 obtain⟨m,f,j,n,a,k⟩:=h;refine⟨m,f,j,n,a.other _ _ _ ?_,k⟩;intro e;rw[e]at a;unfold Blk at a b;rw[a]at b;simp at b;exact g b.2.symm
theorem OR13.ok.row{w:World}{f:Nat}{r:OR13}(h:r.ok w f):r.row.ok w:=by
 obtain⟨i,b,d,g,c,e⟩:=h;refine⟨b,d,fun _=>⟨_,0,rfl,fun j v a=> ?_⟩⟩;rw[yE,c.cell];simp only[OR13.row]at a;rw[←e,zbG]at a;split at a
 ·exact a
 ·cases a
def ORs(w:World)(base:Nat)(R:List OR13):Prop:=(∀r∈R,r.ok w base)∧R.Pairwise fun x y=>x.b<y.b
theorem ORs.step{w w':World}{a:Nat}{R:List OR13}(h:ORs w a R)(c:Below w w w'):ORs w' a R:=⟨fun r b=>(h.1 r b).step c,h.2⟩
theorem ORs.grown{w w':World}{b base' n cap:Nat}{e:TypeId}{a:Option Addr}{xs:List Value}{R:List OR13}(h:ORs w b R)(c:w.ownsRow base' e 1 (.slice a n cap) n xs)(g:¬e=3)(f:w.grownBy w' (Value.slice a n cap).ownBlock):ORs w' b R:=
 ⟨fun r d=>(h.1 r d).grown c g f,h.2⟩
theorem ORs.other{w:World}{a c i:Nat}{d:List Value}{t:TypeId}{v:Value}{R:List OR13}(h:ORs w a R)(f:Blk w c d t)(b:¬t=3):ORs (w.setCell ⟨c,i,none⟩ v) a R:=⟨fun r e=>(h.1 r e).other f b,h.2⟩
theorem ORs.snoc{w w':World}{b:Nat}{R:List OR13}{r:OR13}(h:ORs w b R)(e:Below w w w')(c:r.ok w' b)(f:w.heap.size≤r.b):ORs w' b (R ++ [r]):=by
 refine⟨fun x a=> ?_,?_⟩
 ·rcases List.mem_append.1 a with a|a
  ·exact(h.1 x a).step e
  ·rw[List.mem_singleton.1 a];exact c
 ·rw[List.pairwise_append];refine⟨h.2,by simp,fun x a y d=> ?_⟩;rw[List.mem_singleton.1 d];have:=(h.1 x a).lt;omega
theorem ORs.mix{w:World}{i base':Nat}{R:List OR13}{n:Int}{a:Option Addr}{cap:Nat}(h:ORs w i R)(d:w.ownsRow base' 41 1 (.slice a R.length cap) R.length (R.map OR13.head)):MixIs n (R.map OR13.l) (.agg #[n,.slice a R.length cap]) w:=by
 obtain⟨_,_,c,g,b⟩:=zaV d;simp at c;obtain⟨rfl,rfl⟩:=c;refine⟨R.map OR13.row,a,cap,by rw[List.map_map];rfl,by simp,by simpa using g,by unfold maxLen at b;exact b,?_,fun r e=> ?_⟩
 ·rw[List.map_map];exact Rd.of_owns d
 ·obtain⟨x,f,rfl⟩:=List.mem_map.1 e;exact(h.1 x f).row
def MixOwn(n:Int)(L:List (List Int))(V:Value)(w:World):Prop:=
 ∃(R:List OR13) (a:Option Addr) (cap base:Nat),L=R.map OR13.l∧V = .agg #[n,.slice a R.length cap]∧w.ownsRow base 41 1 (.slice a R.length cap) R.length (R.map OR13.head)∧ORs w base R
def MixNew(B:Nat)(n:Int)(L:List (List Int))(V:Value)(w:World):Prop:=
 ∃(R:List OR13) (a:Option Addr) (cap base:Nat),B≤base∧L=R.map OR13.l∧V = .agg #[n,.slice a R.length cap]∧w.ownsRow base 41 1 (.slice a R.length cap) R.length (R.map OR13.head)∧ORs w base R
theorem MixNew.own{B:Nat}{n:Int}{L:List (List Int)}{V:Value}{w:World}(h:MixNew B n L V w):MixOwn n L V w:=by
 obtain⟨R,a,b,c,_,h⟩:=h;exact⟨R,a,b,c,h⟩
theorem MixOwn.mix{n:Int}{L:List (List Int)}{V:Value}{w:World}(h:MixOwn n L V w):MixIs n L V w:=by
 obtain⟨R,a,d,e,rfl,rfl,c,b⟩:=h;exact b.mix c
theorem zsV{w:World}{d base':Nat}{a:Option Addr}{cap:Nat}{l:List Int}(h:w.ownsRow d 3 1 (.slice a l.length cap) l.length (zaE l))(r:1≤l.length)(m:base'≤d) :
 ∃b,a=some ⟨b,0,none⟩∧d≤b∧(OR13.mk b cap l).ok w base':=by
 have p:=h.1;rcases h.2 with⟨c,s⟩|⟨g,q,j,c,e,k,n,f,o,i⟩
 ·omega
 ·simp only[Value.slice.injEq,true_and]at c;obtain⟨rfl,rfl⟩:=c;unfold maxLen at f;exact⟨g,rfl,e,yD m e,n,f,j.toList,k,by simpa using i⟩
theorem OR13.set_b{R:List OR13}{c:Nat}{r r':OR13}(d:R[c]? = some r)(b:r'.b=r.b){i:Nat}(h:i<(R.set c r').length):((R.set c r')[i]).b=(R[i]'(by simpa using h)).b:=by
 rw[List.getElem_set];split
 ·rename_i e
  subst e;obtain⟨f,a⟩:=List.getElem?_eq_some_iff.1 d;rw[b,a]
 ·rfl
theorem ORs.replace{w w':World}{d:Nat}{R:List OR13}{c:Nat}{r r':OR13}(h:ORs w d R)(g:R[c]? = some r)(z:w.grownBy w' (some r.b))(B:r'.ok w' d)(m:r'.b=r.b):ORs w' d (R.set c r'):=by
 obtain⟨l,o⟩:=List.getElem?_eq_some_iff.1 g;have f:=List.pairwise_iff_getElem.1 h.2;refine⟨fun x C=> ?_,List.pairwise_iff_getElem.2 fun i j b n y=> ?_⟩
 ·obtain⟨i,b,rfl⟩:=List.getElem_of_mem C;rw[List.getElem_set];split
  ·exact B
  ·rename_i A
   have k:i<R.length:=by simpa using b
   have p:R[i].b≠r.b:=by
    rw[←o];rcases Nat.lt_or_gt_of_ne A with a|a
    ·have:=f c i l k a;omega
    ·have:=f i c k l a;omega
   obtain⟨a,q,s,t,u,v⟩:=h.1 _ (yR k);exact⟨a,q,s,t,u.grown z (fun e=>p (by simpa using e)),v⟩
 ·rw[OR13.set_b g m b,OR13.set_b g m n];exact f i j (by simpa using b) (by simpa using n) y
theorem zkG{w w':World}(h:Below w w w')(b:Option Nat):w.grownBy w' b:=⟨h.os,h.tape,h.output,h.size,fun k a _=>h.block k a⟩
theorem clone13_any(xs:List Int)(a:Option Addr)(cap:Nat)(w:World)(x:1≤xs.length)(z:xs.length≤2162688)(m:Rd w a (zaE xs)) :
 Calls Tryz.prog 208 #[.slice a xs.length cap] w fun e l=>∃r:OR13,e = .returned r.head∧r.l=xs∧w.heap.size≤r.b∧r.ok l w.heap.size∧Below w w l:=by
 obtain⟨g,o,rfl,_⟩:=m.at (i:=0) (by rw[zR];omega);have A:∀(w:World) (a:Option Addr) (n c h f:Nat),(binOp .eql 41 (.slice a n c) (.slice none h f)).run Tryz.prog w = .ok (.bool a.isNone) w:=fun w a n c h f=>Lib.run_eql_slice_nil w _ _ a n c h f Tryz.underlying41;have y:=zC (m.step ((zJ w.heap.size w).alloc (zF _) (Obj.cells #[] 3)));go_enter Tryz.func208,Tryz.ntmps208;go_wp2_with (at_builtin;refine yQ _ _ 41 3 1 8 _ w.heap.size elems_ints rfl rfl _ 0 [] rfl (World.ownsRow_made w #[] 0 (zF _) by2 rfl) (some ⟨g,o,none⟩) xs.length cap (zaE xs) rfl (by simp[zaE]) y.out (zgH xs) by5 om by1 ?_;intro B q v d j);have t:Below w w v:=Below.grown zo j by1 (fun k e=>by cases e;exact zF _);simp only[yE,lna]at d;obtain⟨b,rfl,s,p⟩:=zsV (base':=w.heap.size) d x (zF _);have u:=zC p;clear j d p;go_wp2;go_returns;exact⟨⟨b,q,xs⟩,by simp[OR13.head],rfl,s,u.out,t⟩
theorem copy13_any(n:Int)(L:List (List Int))(V:Value)(w:World)(hV:MixIs n L V w)(az:S13.check 16 n L=0) :
 Calls Tryz.prog 91 #[V] w fun e H=>∃(R:List OR13) (a:Option Addr) (b aa:Nat),e = .returned (.agg #[n,.slice a R.length b])∧R.map OR13.l=L∧w.heap.size≤aa∧H.ownsRow aa 41 1 (.slice a R.length b) R.length (R.map OR13.head)∧ORs H aa R∧Below w w H:=by
 obtain⟨k1,k2,k3,k4,k5⟩:=S13.check_zero az;obtain⟨N,G,C,rfl,rfl,h1,h2,aF,ap⟩:=hV;rw[yO]at k3 k4;obtain⟨m,hm⟩:∃m,m=N.length:=⟨_,rfl⟩;rw[←hm]at k3 k4 h1⊢;obtain⟨Hm,aT,aQ,aV⟩:=zh4 hm aF ap k5;clear hm aF ap k5 az;go_enter Tryz.func91,Tryz.ntmps91;go_wp2;obtain⟨A,E⟩:∃A,A=((w.alloc (Obj.cells #[n,.slice G m C] 46)).alloc (Obj.cells #[.int .i64 0,.slice none 0 0] 46)).alloc (Obj.cells #[n,.slice none 0 0] 46):=⟨_,rfl⟩;have ao:=zC (show Blk A w [n,.slice G m C] 46 by rw[E];exact((Blk.new w _ _).alloc _).alloc _)
 have aZ:=zC (show Blk A (w.heap.size+1) [.int .i64 0,.slice none 0 0] 46 by
  have:=(Blk.new (w.alloc (Obj.cells #[n,.slice G m C] 46)) [.int .i64 0,.slice none 0 0] 46).alloc (Obj.cells #[n,.slice none 0 0] 46);rw[E];simpa using this)
 have aL:=zC (show Blk A (w.heap.size+2) [n,.slice none 0 0] 46 by
  have:=Blk.new ((w.alloc (Obj.cells #[n,.slice G m C] 46)).alloc (Obj.cells #[.int .i64 0,.slice none 0 0] 46)) [n,.slice none 0 0] 46;rw[E];simpa using this)
 have a9:Below w w A:=by rw[E];go_grown
 rw[←E];clear E
 go_loopw [4] (fun i wr=>∃(R:List OR13) (a:Option Addr) (b:Nat),R.length≤m∧i = .int .i64 R.length∧R.map OR13.l=(N.map Row13.l).take R.length∧Blk wr (w.heap.size+2) [n,.slice a R.length b] 46∧
  wr.ownsRow (w.heap.size+3) 41 1 (.slice a R.length b) R.length (R.map OR13.head)∧ORs wr (w.heap.size+3) R∧Blk wr (w.heap.size+1) [.int .i64 0,.slice none 0 0] 46∧Blk wr w [n,.slice G m C] 46∧Below w w wr) (fun i _=>m-(intOf i).toNat)
 case atStart=>exact⟨[],none,0,by simp,rfl,by simp,aL.out,World.ownsRow_nil _ _ _ _,⟨by simp,List.Pairwise.nil⟩,aZ.out,ao.out,a9⟩
 case round=>
  obtain⟨R,a,b,a6,rfl,ab,J,af,hR,c,ha,P⟩:=hrel;have zv:=J.lt;obtain⟨k,hk⟩:∃k,k=R.length:=⟨_,rfl⟩;rw[←hk]at J af a6 ab⊢;obtain⟨Hv,ah,HR,aK⟩:=zh4 J af hR c;obtain⟨aI,z,Ha⟩:=zh3 ab hk ha;have aE:=J.cell 1;have ac:=ha.cell 1;simp only[zvH]at aE ac;clear J af hR c ab hk ha;by_cases aN:k<m
  ·have bh:(k:Int)<m:=by omega
   have bf:(0:Int)≤(k:Int):=by omega
   obtain⟨r,g,o,Z,a8,I,am,bb⟩:=zdZ aT.out aQ.out (k:=k) (by rw[←Hm.out];exact aN);rw[a8]at Ha ao ac⊢;have O:wr.cell? ⟨g,o+k,none⟩=some (.slice r.a r.l.length r.cap):=(P.cell (zE I)).trans I;have aX:(r.l.length:Int)=n:=(aV.out r.l (List.mem_map.2 ⟨r,yF Z,rfl⟩)).1;have aw:=am.2.2.step P;obtain⟨a2,aM⟩:=zh2 (show(N.map Row13.l).take (k+1)=(N.map Row13.l).take k ++ [r.l] by rw[List.take_add_one,yI,Z];rfl) aw;clear Z am bb aw;have aD:=zE I;simp only at aD;obtain⟨q,hq⟩:∃q,q=r.l.length:=⟨_,rfl⟩;rw[←hq]at aX O I;have bd:1≤q∧q≤16:=by omega
   have M:=zC hq;clear hq;go_wp2_with fail;refine zhV 11 2 [true,true,true,true,true,true,true,true,false,false,false] [false,false,false,false,false,false,false,false,true,true,true] _ _ (fun H=>Cells H [(⟨w.heap.size+2,1,none⟩,.slice a k b),(⟨w,1,none⟩,.slice (some ⟨g,o,none⟩) m C),(⟨g,o+k,none⟩,.slice r.a q r.cap)]) zk (zU 11 _).symm zk zk zk zk zk (by simp only[Cells];exact⟨aE,ac,O,zT⟩) (fun Y Q4 F4 hY hF=> ?_);simp only[ltc,ltz,ldc,ldz,zdY,zcV,zfO]
   repeat
    apply zkL (by rw[hY];rfl)
    ·intro w2 a4;(try simp only[Keeps,Cells]at a4);go_simp;with_reducible rfl
    simp only[zvF]
   refine znH ?_
   refine zgK (.tmp 18) (.tmp 23) 41 3 1 8 _ wr.heap.size elems_ints (.slice none 0 0) 0 [] r.a q r.cap (zaE r.l) (by rw[hY];rfl) rfl rfl rfl (by rw[zR,←M.out];omega)
    (zgH _) by5 om (World.ownsRow_nil _ _ _ _) (aM.out.step (zJ _ _).drew) (zF _) ?_
   intro a3 s d aj aB;simp only[yE,lna]at aj⊢;have t:Below wr wr d:=Below.grown (B:=wr.heap.size) ((zJ _ _).drew) aB by1 (fun j e=>by cases e);obtain⟨h,rfl,a1,X⟩:=zsV (base':=w.heap.size+3) (l:=r.l) (by rw[←M.out];exact aj) (by rw[←M.out];omega) om;have be:h<d.heap.size:=X.lt;have ae:=Hv.out.step t;have ai:=Ha.out.step t;have aJ:=ae.cell 1;have aC:=ai.cell 1;have ak:=(t.cell (zE O)).trans O;simp only[zvH]at aJ aC;refine⟨by simp only[Cells];exact⟨aJ,aC,ak,zT⟩,?_⟩;simp only[zvF];have Q:=ae.alloc (Obj.cells #[.slice (some ⟨h,0,none⟩) q s] 41);have S:=ai.alloc (Obj.cells #[.slice (some ⟨h,0,none⟩) q s] 41);have al:=Q.cell 1;have ar:=S.cell 1;have aY:(d.alloc (Obj.cells #[.slice (some ⟨h,0,none⟩) q s] 41)).cell? ⟨g,o+k,none⟩=some (.slice r.a q r.cap):=(((zJ d.heap.size d).alloc (zF _) _).cell (zE ak)).trans ak;simp only[zvH]at al ar;refine zgX (by rw[hY];rfl) (by go_simp;first|with_reducible exact⟨rfl,rfl⟩|with_reducible rfl) (by simp only[Cells];exact⟨al,ar,aY,zT⟩) ?_;simp only[zvF];have y:=(zrY ah.out t).alloc (Obj.cells #[.slice (some ⟨h,0,none⟩) q s] 41);have bg:wr.heap.size≤d.heap.size:=t.size
   refine zgK (.tmp 17) (.tmp 25) 44 41 1 24 _ (w.heap.size+3) ztG (.slice a k b) k (R.map OR13.head) (some ⟨d,0,none⟩) 1 1 [.slice (some ⟨h,0,none⟩) q s] (by rw[hY];rfl) rfl rfl rfl rfl
    by4 by5 om y (Rd.new d [.slice (some ⟨h,0,none⟩) q s] 41) by7 ?_
   intro x u T U D;have F:=Q.grown D (Ne.symm (zaS y Q by2));have ad:=S.grown D (Ne.symm (zaS y S by2));have aH:=F.cell 1;have av:=ad.cell 1;have bc:=F.free 1;have aA:Below w w T:=Below.grown ((zA P t).alloc om _) D by7 (fun j e=>by have:=(zbP y e).1;omega);have aW:T.cell? ⟨g,o+k,none⟩=some (.slice r.a q r.cap):=(aA.cell (p:=⟨g,o+k,none⟩) aD).trans I;simp only[zvH]at aH av;refine⟨by simp only[Cells];exact⟨aH,av,aW,zT⟩,?_⟩;simp only[zvF];have ay:=(HR.out.snoc t X a1).step ((zJ d.heap.size d).alloc (zF _) (Obj.cells #[.slice (some ⟨h,0,none⟩) q s] 41));have aq:=ay.grown y by2 D;have W:=(aK.out.step t).alloc (Obj.cells #[.slice (some ⟨h,0,none⟩) q s] 41);have au:=W.grown D (Ne.symm (zaS y W by2));obtain⟨a7,aP,aO,aS⟩:=zh4 (F.set 1 (.slice x (k+1) u)) (U.kept (yZ T (w.heap.size+2) 1 (.slice x (k+1) u)) (.inr (zaS U F by2))) (aq.other (i:=1) (v:=.slice x (k+1) u) F by2) (au.other (w.heap.size+2) 1 (.slice x (k+1) u) om);have a0:=zC (ad.other (w.heap.size+2) 1 (.slice x (k+1) u) om);have aR:Below w w (T.setCell ⟨w.heap.size+2,1,none⟩ (.slice x (k+1) u)):=aA.setCell (by simp only;omega) _;clear D U y ae Q F ai S ad ay aq W au X aB aj;refine znJ (hF.out _ _ (fun K hK=> ?_));clear hF hY;go_wp2_with fail;refine mok hK ?_;go_wp2;go_roundw
   case rel=>
    refine⟨R ++ [⟨h,s,r.l⟩],x,u,by rw[zaG,←z.out];simp;omega,by rw[zaG,←z.out];go_num,?_,?_,?_,aO.out,aS.out,a0.out,aR⟩
    ·rw[List.map_append,aI.out,zaG,←z.out];exact a2.out.symm
    ·rw[zaG,←z.out];exact a7.out
    ·have:=aP.out;rw[zaG,←z.out,List.map_append];simpa[OR13.head,←M.out] using this
   case measure=>simp[intOf];omega
  ·obtain rfl:k=m:=by omega
   have c:=aK.out;have aG:=HR.out.other (i:=0) (v:=.int .i64 n) c by2;have ag:=ah.out.kept (yZ wr (w.heap.size+1) 0 (.int .i64 n)) (.inr (zaS ah.out c by2));have an:=aG.other (i:=1) (v:=.slice a k b) (c.set 0 (.int .i64 n)) by2;have ax:=ag.kept (yZ _ (w.heap.size+1) 1 (.slice a k b)) (.inr (zaS ag (c.set 0 (.int .i64 n)) by2));have v0:=Hv.out.cell 0;have v1:=Hv.out.cell 1;have r0:=c.cell 0;have r1:=c.cell 1;have f0:=c.free 0;have f1:=c.free 1;have s1:=((c.set 0 (.int .i64 n)).set 1 (.slice a k b)).cell 0;have s2:=((c.set 0 (.int .i64 n)).set 1 (.slice a k b)).cell 1;simp only[sC0,sCs,lgz,lgs]at v0 v1 r0 r1 s1 s2;obtain⟨ba,aU⟩:=zh2 an ax;clear c aG ag an ax;go_wp2;refine bodyPost_ret (v:=.agg #[n,.slice a k b]) (by simp[results,Tryz.results91,go_sem,s1,s2]) rfl ⟨R,a,b,w.heap.size+3,by rw[←z.out],?_,by omega,?_,ba.out,?_⟩
   ·rw[aI.out,Hm.out,←yO (f:=Row13.l),zaD]
   ·rw[←z.out];exact aU.out
   ·exact(P.setCell (by simp only;omega) _).setCell (by simp only;omega) _
def S13.lw(d rate w x:Int):Int:=max (-1048576) (min (w+S06.round (x*d*rate) 16384) 1048576)
def S13.learnRow(d rate:Int):List Int→List Int→List Int
 | w::ws,x::xs=>S13.lw d rate w x::S13.learnRow d rate ws xs
 | ws,_=>ws
theorem S13.learnRow_length(d rate:Int):∀a b:List Int,(S13.learnRow d rate a b).length=a.length
 | [],_=>by simp[S13.learnRow]
 | _::_,[]=>by simp[S13.learnRow]
 | w::a,x::b=>by simp[S13.learnRow,S13.learnRow_length d rate a b]
theorem S13.learnRow_at(d rate:Int):∀(a b:List Int) (k:Nat),k<a.length→a.length=b.length→(S13.learnRow d rate a b)[k]? = some (S13.lw d rate (a.getD k 0) (b.getD k 0))
 | w::a,x::b,0,_,_=>by simp[S13.learnRow]
 | w::a,x::b,k+1,h,hl=>by
   simp only[S13.learnRow,lgs,zeF];exact S13.learnRow_at d rate a b k (by simpa using h) (by simpa using hl)
def S13.upd(d rate:Int)(ws xs:List Int)(k:Nat):List Int:=(S13.learnRow d rate ws xs).take k++ws.drop k
theorem S13.upd_zero(d rate:Int)(ws xs:List Int):S13.upd d rate ws xs 0=ws:=by simp[S13.upd]
theorem S13.upd_all(d rate:Int)(ws xs:List Int):S13.upd d rate ws xs ws.length=S13.learnRow d rate ws xs:=by
 unfold S13.upd;rw[List.drop_length,List.append_nil,List.take_of_length_le (by rw[S13.learnRow_length];exact zF _)]
theorem S13.upd_length(d rate:Int)(ws xs:List Int){k:Nat}(a:k≤ws.length):(S13.upd d rate ws xs k).length=ws.length:=by
 unfold S13.upd;rw[zaG,yJ,List.length_drop,S13.learnRow_length];omega
theorem S13.upd_at(d rate:Int)(ws xs:List Int){k:Nat}(a:k<ws.length):(S13.upd d rate ws xs k)[k]? = some (ws.getD k 0):=by
 unfold S13.upd;rw[yK (by rw[yJ,S13.learnRow_length];omega),yJ,S13.learnRow_length,Nat.min_eq_left om,Nat.sub_self,zdI,Nat.add_zero,zK,zD a];rfl
theorem S13.upd_succ(d rate:Int)(ws xs:List Int){k:Nat}(a:k<ws.length)(f:ws.length=xs.length) :
 (S13.upd d rate ws xs k).set k (S13.lw d rate (ws.getD k 0) (xs.getD k 0))=S13.upd d rate ws xs (k+1):=by
 apply List.ext_getElem?;intro i;have g:=S13.learnRow_at d rate ws xs k a f;rw[List.getElem?_set];unfold S13.upd;by_cases b:k=i
 ·subst b;have e:=S13.upd_length d rate ws xs (Nat.le_of_lt a);unfold S13.upd at e;rw[zQ rfl,zQ (by rw[e];exact a),zbH (by rw[yJ,S13.learnRow_length];omega),zbG,zQ om,g]
 ·rw[zG b];rcases Nat.lt_or_gt_of_ne b with c|c
  ·rw[yK (by rw[yJ,S13.learnRow_length];omega),yK (by rw[yJ,S13.learnRow_length];omega),yJ,yJ,S13.learnRow_length,
    Nat.min_eq_left om,Nat.min_eq_left om,zdI,zdI,show k+(i-k)=i by omega,show k+1+(i-(k+1))=i by omega]
  ·rw[zbH (by rw[yJ,S13.learnRow_length];omega),zbH (by rw[yJ,S13.learnRow_length];omega),zbG,zbG,zQ c,zQ om]
theorem S13.prod_abs{x d rate:Int}(e : -3071≤x∧x≤3071)(c : -4096≤d∧d≤4096)(g:0≤rate∧rate≤255):(-12578816≤x*d∧x*d≤12578816)∧ -3207598080≤x*d*rate∧x*d*rate≤3207598080:=by
 have h:=S13.mul_abs (A:=3071) (B:=4096) e.1 e.2 c.1 c.2;have f:=S13.mul_abs (a:=x*d) (b:=rate) (A:=12578816) (B:=255) om om om om;exact⟨⟨by omega,by omega⟩,by omega,by omega⟩
theorem zqR(i n cap:Nat)(a x d rate:Int)(k l h b:Nat)(g:List Value)(w:World)(hi:i<n)(hn:n≤16)(ab:n≤g.length)(T : -3071≤x∧x≤3071)(L : -4096≤d∧d≤4096)(R:0≤rate∧rate≤255)(aa : -1048576≤a∧a≤1048576)
 (C:Blk w k [d] 3) (J:Blk w l [rate] 3) (v:Blk w h [.slice (some ⟨b,0,none⟩) n cap] 41) (m:Blk w b g 3) :
 Calls Tryz.prog 249 #[i,a,x,.pointer (some ⟨k,0,none⟩),.pointer (some ⟨l,0,none⟩),.pointer (some ⟨h,0,none⟩)] w fun e f=>
  e = .returned (.tuple #[])∧∃t,Below w w t∧f=t.setCell ⟨b,i,none⟩ (.int .i64 (S13.lw d rate a x)):=by
 obtain⟨⟨p1,p2⟩,U,p4⟩:=S13.prod_abs T L R;have V:=S06.round_abs (n:=x*d*rate) (d:=16384) (B:=3207598080) om om om;have M:=zC fun W=>zjV (x*d*rate) 16384 W om om om om;have N:=zC (show S13.lw d rate a x=max (-1048576) (min (a+S06.round (x*d*rate) 16384) 1048576)from rfl);have e1:IntKind.i64.wrap (x*d)=x*d:=IntWalk.i64_in _ om;have e2:IntKind.i64.wrap (x*d*rate)=x*d*rate:=IntWalk.i64_in _ om;have Z:IntKind.i64.wrap (a+S06.round (x*d*rate) 16384)=a+S06.round (x*d*rate) 16384:=IntWalk.i64_in _ om;generalize S06.round (x*d*rate) 16384=q at *;have D:=C.cell 0;have z:=J.cell 0;have y:=v.cell 0;simp only[lgz]at D z y;have i1:(i:Int)<n:=by omega
 have i2:(0:Int)≤(i:Int):=by omega
 have r:=zC m;have E:=m.lt;have P:∃u,g[i]? = some u:=⟨_,zD (show i<g.length by omega)⟩;obtain⟨u,A⟩:=P;have Q:=zC A;clear C J v m A;go_enter Tryz.func249,Tryz.ntmps249;refine zbJ 12 2 _ _ (Keeps w [(⟨k,0,none⟩,d),(⟨l,0,none⟩,rate),(⟨h,0,none⟩,.slice (some ⟨b,0,none⟩) n cap)]) zk (zU 12 _).symm rfl rfl zk (Keeps.start (by simp only[Cells];exact⟨D,z,y,zT⟩)) (fun Y F hY I=> ?_);simp only[ltc,ltz,ldc,ldz]
 repeat
  apply yN (by rw[hY];rfl)
  ·intro o ⟨G,c⟩;simp only[Cells]at c;go_simp;with_reducible rfl
  simp only[zvF]
 apply zcF (by rw[hY];rfl)
 ·intro o ⟨G,c⟩;simp only[Cells]at c;go_simp;with_reducible exact⟨rfl,rfl⟩
 ·intro o s;have c:=s.2;simp only[Cells]at c;refine(M.out _).mono ?_;rintro e w3 ⟨rfl,S⟩;exact⟨rfl,s.step S⟩
 simp only[zvF]
 repeat
  apply yN (by rw[hY];rfl)
  ·intro o ⟨G,c⟩;simp only[Cells]at c;go_simp;with_reducible rfl
  simp only[zvF]
 refine I.out _ (fun K f O H=> ?_);have j:=H.1;have X:f.frozen? ⟨b,i,none⟩=false:=by rw[j.frozen (p:=⟨b,i,none⟩) E];exact r.out.free i
 have ac:f.cell? ⟨b,i,none⟩=some u:=by rw[j.cell (p:=⟨b,i,none⟩) E,r.out.cell];exact Q.out
 clear I hY H;go_wp2_with fail;refine mok O ?_;go_wp2;go_returns;exact⟨rfl,f,j,by rw[N.out]⟩
def S13.learnL(L:List (List Int))(c:Nat)(xs:List Int)(bit rate:Int):List (List Int):=
 L.set c (S13.learnRow (4096*bit-S06.squash (S13.mix (L.getD c []) xs)) rate (L.getD c []) xs)
theorem ztO(xs:List Int)(i:Nat)(v:Int):zaE (xs.set i v)=(zaE xs).set i (.int .i64 v):=by simp[zaE,List.map_set]
theorem enterLearn(a b c p q r:Value)(w:World):(callFunc 249 #[a,b,c,p,q,r]).run Tryz.prog w = .ok (.enter 249 #[a,b,c,p,q,r]) w:=by kernel_rfl
theorem visitLearn13_any(ws xs:List Int)(d rate:Int)(n o m b cap r v B:Nat)(s:List Value)(w:World)(E:ws.length=xs.length)(G:xs.length≤16)
 (O:∀x∈ws,-1048576≤x∧x≤1048576) (J:∀x∈xs,-3071≤x∧x≤3071) (F : -4096≤d∧d≤4096) (S:0≤rate∧rate≤255)
 (L:Blk w n [d] 3) (T:Blk w o [rate] 3) (l:Blk w m [.slice (some ⟨b,0,none⟩) xs.length cap] 41) (y:Blk w b s 3) (D:s.take xs.length=zaE ws)
 (U:¬n=b) (Q:¬o=b) (R:¬r=b) (K:∀k,k<xs.length→w.cell? ⟨r,v+k,none⟩=some (.int .i64 (xs.getD k 0))) :
 Calls Tryz.prog 250 #[.agg #[.func (.func 249) #[] #[.pointer (some ⟨n,0,none⟩),.pointer (some ⟨o,0,none⟩),.pointer (some ⟨m,0,none⟩)]],.slice (some ⟨b,0,none⟩) xs.length cap,.slice (some ⟨r,v,none⟩) xs.length B] w fun e t=>
  e = .returned (.tuple #[])∧(∃f,Blk t b f 3∧f.take xs.length=zaE (S13.learnRow d rate ws xs))∧w.grownBy t (some b):=by
 have I:¬m=b:=fun e=>by
  rw[e]at l;unfold Blk at l y;rw[y]at l;simp at l
 have Y:xs.length≤s.length:=by
  have:=yG List.length D;rw[yJ,zR]at this;omega
 have N:=visit13_any 249 #[.pointer (some ⟨n,0,none⟩),.pointer (some ⟨o,0,none⟩),.pointer (some ⟨m,0,none⟩)] (fun a b c W=>enterLearn a b c _ _ _ W) xs.length b 0 cap r v B (fun k=>ws.getD k 0) (fun k=>xs.getD k 0)
  (fun k W=>(∃f,Blk W b f 3∧f.take xs.length=zaE (S13.upd d rate ws xs k)∧k≤xs.length)∧w.grownBy W (some b))
  (fun k W V h A=>by
    obtain⟨⟨f,i,j,u⟩,g⟩:=h;exact⟨⟨f,i.step A,j,u⟩,g.trans (zkG A _)⟩)
  (fun k W p h=>by
    obtain⟨⟨f,i,j,u⟩,g⟩:=h;refine⟨?_,?_⟩
    ·rw[yE,i.cell];have C:(f.take xs.length)[k]? = some (.int .i64 (ws.getD k 0)):=by
      rw[j,zaE,yI,S13.upd_at d rate ws xs om];rfl
     rw[zbG,zQ p]at C;exact C
    ·exact g.cell (K k p) (fun e=>R (by simpa using e)))
  (fun k W p h=>by
    obtain⟨⟨f,i,j,u⟩,g⟩:=h;have M:xs.length≤f.length:=by
     have:=yG List.length j;rw[yJ,zR,S13.upd_length d rate ws xs om]at this;omega
    refine(zqR k xs.length cap (ws.getD k 0) (xs.getD k 0) d rate n o m b f W p G M (S13.getD_mem (P:=fun x=> -3071≤x∧x≤3071) J p) F S (S13.getD_mem (P:=fun x=> -1048576≤x∧x≤1048576) O om)
     (L.grown g (fun e=>U (by simpa using e))) (T.grown g (fun e=>Q (by simpa using e))) (l.grown g (fun e=>I (by simpa using e))) i).mono ?_
    rintro e t ⟨rfl,H,z,rfl⟩;refine⟨rfl,⟨⟨f.set k (.int .i64 (S13.lw d rate (ws.getD k 0) (xs.getD k 0))),(i.step z).set k _,?_,by omega⟩,(g.trans (zkG z _)).trans (yZ H b k _)⟩,fun X Z q=> ?_⟩
    ·rw[List.take_set,j,←ztO,S13.upd_succ d rate ws xs om E]
    ·refine(q.step z).other _ _ _ fun e=> ?_;subst e;unfold Blk at q i;rw[i]at q;simp at q)
  w om ⟨⟨s,y,by rw[S13.upd_zero];exact D,by omega⟩,World.grownBy.refl _ _⟩
 refine N.mono ?_;rintro e t ⟨rfl,⟨f,i,j,_⟩,g⟩;refine⟨rfl,⟨f,i,?_⟩,g⟩;rw[j,←E,S13.upd_all]
theorem or_ok_set{R:List OR13}{c:Nat}{r:OR13}(a:R[c]? = some r)(l':List Int):(R.set c ⟨r.b,r.cap,l'⟩).map OR13.l=(R.map OR13.l).set c l':=by rw[List.map_set]
theorem zqH{R:List OR13}{c:Nat}{r:OR13}(a:R[c]? = some r){l':List Int}(b:l'.length=r.l.length):(R.set c ⟨r.b,r.cap,l'⟩).map OR13.head=R.map OR13.head:=by
 rw[List.map_set];have:(OR13.mk r.b r.cap l').head=r.head:=by simp[OR13.head,b]
 rw[this];apply List.ext_getElem?;intro i;rw[List.getElem?_set];split
 ·rename_i e
  subst e;rw[yI,a];have:c<(R.map OR13.head).length:=by rw[yO];exact(List.getElem?_eq_some_iff.1 a).1
  rw[zQ this];rfl
 ·rfl
theorem learn13_own(n:Int)(L:List (List Int))(J:Option Addr)(I c:Nat)(xs:List Int)(a:Option Addr)(cap:Nat)(bit rate:Int)(w:World)(hV:MixIs n L (.agg #[n,.slice J L.length I]) w)(ar:Rd w a (zaE xs))
 (hu:S13.usable 16 n L c xs=0) (a7:0≤bit∧bit≤1) (bb:1≤rate∧rate≤255) :
 Calls Tryz.prog 241 #[.agg #[n,.slice J L.length I],c,.slice a xs.length cap,bit,rate] w fun e w'=>
  ∃V,e = .returned (.tuple #[V,.int .i64 0])∧MixNew w.heap.size n (S13.learnL L c xs bit rate) V w'∧Below w w w':=by
 have HU:=zC fun W (H:Below w w W)=>znP n L _ c xs a cap W (hV.step H) (by have:=(S13.usable_zero hu).2.2.2.1;have:=(S13.check_zero (S13.usable_zero hu).1).2.1;omega) (ar.step H);rw[hu]at HU;obtain⟨k1,k2,k3,k4,k5,k6,k7⟩:=S13.usable_zero hu;obtain⟨q1,q2,q3,q4,q5⟩:=S13.check_zero k1;have a8:=zC fun W=>zcI bit 0 1 W;have aU:=zC fun W=>zcI rate 1 255 W;rw[zO a7.1,zO a7.2]at a8;rw[zO bb.1,zO bb.2]at aU;obtain⟨b,ra,rc,rfl,aN,h1,h2,bf,aR⟩:=hV;simp at aN;obtain⟨rfl,rfl⟩:=aN;have bp:=zC (show S13.learnL (b.map Row13.l) c xs bit rate=(b.map Row13.l).set c (S13.learnRow (4096*bit-S06.squash (S13.mix ((b.map Row13.l).getD c []) xs)) rate ((b.map Row13.l).getD c []) xs)from rfl);simp only[Int.toNat_natCast]at k7;rw[yO]at *;obtain⟨m,hm⟩:∃m,m=b.length:=⟨_,rfl⟩;rw[←hm]at k3 q3 q4 h1 HU⊢;obtain⟨Hm,bQ,bF,ca⟩:=zh4 hm bf aR q5;obtain⟨bM,aL⟩:=zh2 k7 ar;have ce:c<m:=by omega
 have cf:(c:Int)<m:=by omega
 have cg:(0:Int)≤(c:Int):=by omega
 have aQ:xs.length≤16:=by omega
 clear hm bf aR q5 k1 k6 k7 hu ar;have bw:=S06.squash_bounds (S13.mix ((b.map Row13.l).getD c []) xs);have aE:=zC fun W=>zeX (S13.mix ((b.map Row13.l).getD c []) xs) W;obtain⟨q,hq⟩:=zvJ (S06.squash (S13.mix ((b.map Row13.l).getD c []) xs));rw[hq]at bw aE;have bs:=zC (show S13.learnL (b.map Row13.l) c xs bit rate=(b.map Row13.l).set c (S13.learnRow (4096*bit-q) rate ((b.map Row13.l).getD c []) xs) by rw[bp.out,hq]);clear hq bp;have e1:IntKind.i64.wrap (4096*bit)=4096*bit:=IntWalk.i64_in _ om;have e2:IntKind.i64.wrap (4096*bit-q)=4096*bit-q:=IntWalk.i64_in _ om;have co:=zC k4;have ai:=k5;clear k4 k5;obtain⟨l,hl⟩:∃l,l=xs.length:=⟨_,rfl⟩;rw[←hl]at HU aQ ai⊢;have C:=zC hl;clear hl;go_enter Tryz.func241,Tryz.ntmps241;go_wp2_with fail;refine mnx w (HU.out _ zo) fun X U b0 _=> ?_;obtain⟨Q,aa⟩:∃Q,Q=((w.alloc (Obj.cells #[n,.slice J m I] 46)).alloc (Obj.cells #[rate] 3)).alloc (Obj.cells #[.int .i64 0,.slice none 0 0] 46):=⟨_,rfl⟩;rw[←aa]at U
 have aP:=zC (show Blk X w [n,.slice J m I] 46 by
  have:Blk Q w [n,.slice J m I] 46:=by rw[aa];exact((Blk.new w _ _).alloc _).alloc _
  exact this.step U)
 have ao:=zC (show Blk X (w.heap.size+1) [rate] 3 by
  have h0:=(Blk.new (w.alloc (Obj.cells #[n,.slice J m I] 46)) [rate] 3).alloc (Obj.cells #[.int .i64 0,.slice none 0 0] 46);have:Blk Q (w.heap.size+1) [rate] 3:=by rw[aa];simpa using h0
  exact this.step U)
 have a3:=zC (show Blk X (w.heap.size+2) [.int .i64 0,.slice none 0 0] 46 by
  have h0:=Blk.new ((w.alloc (Obj.cells #[n,.slice J m I] 46)).alloc (Obj.cells #[rate] 3)) [.int .i64 0,.slice none 0 0] 46;have:Blk Q (w.heap.size+2) [.int .i64 0,.slice none 0 0] 46:=by rw[aa];simpa using h0
  exact this.step U)
 clear U aa;go_wp2_with fail;refine mnb b0 (a8.out _) fun w2 aD bW=> ?_;have aG:=zC (ao.out.step aD);have bT:=aG.out.cell 0;simp only[lgz]at bT;have cp:=aG.out.lt;go_wp2_with fail;refine mnb bW (aU.out _) fun d bd br=> ?_;have ae:Below X X d:=zA aD bd;obtain⟨ad,bZ,bi⟩:=zh3 (aP.out.step ae) (ao.out.step ae) (a3.out.step ae);have bu:=ad.out.cell 0;have aO:=ad.out.cell 1;simp only[zvH]at bu aO;have ch:=bi.out.lt;have cj:=ad.out.lt;clear aD bd ae aP ao a3 aG;have e0:IntKind.i64.wrap 0=0:=rfl;go_wp2
 go_loopw [43] (fun i wr=>∃(R:List OR13) (a:Option Addr) (cap:Nat),R.length≤m∧i = .int .i64 R.length∧R.map OR13.l=(b.map Row13.l).take R.length∧Blk wr d [n,.slice a R.length cap] 46∧
  wr.ownsRow (d.heap.size+1) 41 1 (.slice a R.length cap) R.length (R.map OR13.head)∧ORs wr (d.heap.size+1) R∧Below d d wr) (fun i _=>m-(intOf i).toNat)
 case atStart=>exact⟨[],none,0,by simp,rfl,by simp,Blk.new d _ _,World.ownsRow_nil _ _ _ _,⟨by simp,List.Pairwise.nil⟩,by go_grown⟩
 case round=>
  obtain⟨R,oa,A,b8,rfl,ap,hv,au,hR,O⟩:=hrel;have zv:=hv.lt;obtain⟨k,hk⟩:∃k,k=R.length:=⟨_,rfl⟩;rw[←hk]at hv au b8 ap⊢;obtain⟨Hv,ax,HR,bl⟩:=zh4 hv au hR ap;have F:=zC hk;have bc:=hv.cell 1;simp only[zvH]at bc;have z:Below w w wr:=zA br O;clear hv au hR ap hk;by_cases bt:k<m
  ·have cl:(k:Int)<m:=by omega
   obtain⟨r,g,o,t,cc,am,M,cd⟩:=zdZ bQ.out bF.out (k:=k) (by rw[←Hm.out];exact bt);rw[cc]at ad aO⊢;have a4:=zE am;simp only at a4;have bG:wr.cell? ⟨g,o+k,none⟩=some (.slice r.a r.l.length r.cap):=(z.cell (p:=⟨g,o+k,none⟩) a4).trans am;have Z:(r.l.length:Int)=n:=(ca.out r.l (List.mem_map.2 ⟨r,yF t,rfl⟩)).1;have b5:=zC (show(b.map Row13.l).take (k+1)=(b.map Row13.l).take k ++ [r.l] by rw[List.take_add_one,yI,t];rfl);have aS:=zC fun W (H:Below wr wr W)=>clone13_any r.l r.a r.cap W om om (M.2.2.step (zA z H));clear t am M cd;obtain⟨B,aJ⟩:∃B,B=r.l.length:=⟨_,rfl⟩;rw[←aJ]at Z bG aS;have Hq:=zC aJ;clear aJ;go_wp2;refine zhV 6 2 [true,true,true,false,false,false] [false,false,false,true,true,true] _ _ (fun w'=>Cells w' [(⟨d,1,none⟩,.slice oa k A)]) zk (zU 6 _).symm zk zk zk zk zk (by simp only[Cells];exact⟨bc,zT⟩) (fun Y Q4 F4 hY hF=> ?_);simp only[ltc,ltz,ldc,ldz,zdY,zcV,zfO]
   repeat
    apply zkL (by rw[hY];rfl)
    ·intro w2 b7;(try simp only[Keeps,Cells]at b7);go_simp;with_reducible rfl
    simp only[zvF]
   refine znH ?_;apply wpChain_call (by rw[hY];rfl)
   ·go_simp;with_reducible exact⟨rfl,rfl⟩
   refine(aS.out _ (zJ _ _).drew).mono ?_;rintro e u ⟨⟨h,G,l4⟩,rfl,bV,ah,an,bK⟩;obtain rfl:l4=r.l:=bV;have T:Below wr wr u:=zA ((zJ wr.heap.size wr).drew) bK;have cq:wr.heap.size≤u.heap.size:=T.size;have aq:wr.heap.size≤h:=ah;have ck:h<u.heap.size:=an.lt;have aC:=Hv.out.step T;have aK:=aC.cell 1;simp only[zvH]at aK;refine⟨.slice (some ⟨h,0,none⟩) B G,by rw[Hq.out];rfl,(by simp only[Cells];exact⟨aK,zT⟩),?_⟩;simp only[zvF];have ak:=aC.alloc (Obj.cells #[.slice (some ⟨h,0,none⟩) B G] 41);have bj:=ak.cell 1;simp only[zvH]at bj;refine zgX (by rw[hY];rfl) (by go_simp;first|with_reducible exact⟨rfl,rfl⟩|with_reducible rfl) (by simp only[Cells];exact⟨bj,zT⟩) ?_;simp only[zvF];have S:=(zrY ax.out T).alloc (Obj.cells #[.slice (some ⟨h,0,none⟩) B G] 41)
   refine zgK (.tmp 48) (.tmp 51) 44 41 1 24 _ (d.heap.size+1) ztG (.slice oa k A) k (R.map OR13.head) (some ⟨u,0,none⟩) 1 1 [(.slice (some ⟨h,0,none⟩) B G)] (by rw[hY];rfl) rfl rfl rfl rfl
    (by simp[Value.oneCell',OR13.head]) by5 om S (Rd.new u [(.slice (some ⟨h,0,none⟩) B G)] 41) by7 ?_
   intro a6 ab w6 aH aj;have N:=ak.grown aj (Ne.symm (zaS S ak by2));have aY:=N.cell 1;have cr:=N.free 1;simp only[zvH]at aY;refine⟨by simp only[Cells];exact⟨aY,zT⟩,?_⟩;simp only[zvF];have aM:(OR13.mk h G r.l).ok u (d.heap.size+1):=⟨show d.heap.size+1≤h by have:=O.size;omega,an.2⟩;have aX:=(HR.out.snoc T aM aq).step ((zJ u.heap.size u).alloc (zF _) (Obj.cells #[.slice (some ⟨h,0,none⟩) B G] 41));have a2:=aX.grown S by2 aj;have bS:Below d d w6:=Below.grown ((zA O T).alloc (by have:=O.size;omega) _) aj (by simp;have:=O.size;omega) (fun j e=>by have:=(zbP S e).1;omega);obtain⟨bz,bq,b3⟩:=zh3 (N.set 1 (.slice a6 (k+1) ab)) (aH.kept (yZ w6 d.heap.size 1 (.slice a6 (k+1) ab)) (.inr (zaS aH N by2))) (a2.other (i:=1) (v:=.slice a6 (k+1) ab) N by2);have bA:Below d d (w6.setCell ⟨d,1,none⟩ (.slice a6 (k+1) ab)):=bS.setCell (zF _) _;clear aj aH S aC ak N aX a2 aM an;refine znJ (hF.out _ _ (fun K hK=> ?_));clear hF hY;go_wp2_with fail;refine mok hK ?_;go_wp2;go_roundw
   case rel=>
    refine⟨R ++ [⟨h,G,r.l⟩],a6,ab,by rw[zaG,←F.out];simp;omega,by rw[zaG,←F.out];go_num,?_,?_,?_,b3.out,bA⟩
    ·rw[List.map_append,bl.out,zaG,←F.out,List.map_singleton];exact b5.out.symm
    ·rw[zaG,←F.out];exact bz.out
    ·have:=bq.out;rw[zaG,←F.out,List.map_append];simpa[OR13.head,←Hq.out] using this
   case measure=>simp[intOf];omega
  ·obtain rfl:k=m:=by omega
   have af:c<R.length:=by rw[←F.out];exact ce
   obtain⟨r,t⟩:∃r,R[c]? = some r:=⟨R[c],zD af⟩;have a5:(b.map Row13.l).take k=b.map Row13.l:=by rw[Hm.out,←yO (f:=Row13.l),zaD]
   have aI:R.map OR13.l=b.map Row13.l:=by rw[bl.out,a5]
   have Z:(b.map Row13.l).getD c []=r.l:=by
    rw[←aI,zK,yI,t];rfl
   have ac:=bM.out;rw[Z]at ac aE;have av:r.l.length=l:=by rw[C.out];exact ac.1
   have M:=HR.out.1 r (yF t);obtain⟨D,E,bI,bn⟩:=(Rd.of_owns ax.out).at (i:=c) (by rw[yO];exact af);subst bI;have bC:wr.cell? ⟨D,E+c,none⟩=some (.slice (some ⟨r.b,0,none⟩) l r.cap):=by
    rw[bn c (by rw[yO];exact af),List.getElem_map];have:R[c]=r:=by rw[zD af]at t;exact zI t
    rw[this,OR13.head,av]
   have bL:=zE bC;simp only at bL;obtain⟨gx,ox,rfl,ba⟩:=aL.out.at (i:=0) (by rw[zR,←C.out];exact ai);have cm:gx<w.heap.size:=zE (ba 0 (by rw[zR,←C.out];exact ai));have bo:=zC fun W (H:Below wr wr W)=>mix13_any r.l xs (some ⟨r.b,0,none⟩) (some ⟨gx,ox,none⟩) r.cap cap W ac (by rw[←C.out];exact ai) ((M.row.2.2).step H) ((aL.out.step z).step H);rw[←C.out]at bo;have bN : -4096≤4096*bit-q:=by omega
   have b1:4096*bit-q≤4096:=by omega
   have be:S13.learnL (b.map Row13.l) c xs bit rate=(b.map Row13.l).set c (S13.learnRow (4096*bit-q) rate r.l xs):=by rw[bs.out,Z]
   obtain⟨bY,ag,aw,ay⟩:=zh4 be ac M t;obtain⟨bJ,b2⟩:=zh2 aI av;clear be ac Z a5 bn t aI M av;generalize S13.mix r.l xs=mx at *;go_wp2_with fail;refine(bo.out _ zo).mono ?_;rintro e u ⟨rfl,ah⟩;have aq:Below wr wr u:=zA zo ah;have cb:=zC ((Blk.new wr [.slice (some ⟨r.b,0,none⟩) l r.cap] 41).step ah);go_wp2_with fail;refine(aE.out _).mono ?_;rintro e x ⟨rfl,a1⟩;have y:Below wr wr x:=zA aq a1;have a0:Below d d x:=zA O y;have aB:=zC (cb.out.step a1);have ci:=aB.out.lt;have bX:=aB.out.cell 0;simp only[lgz]at bX;have z5:wr.heap.size≤x.heap.size:=y.size;have z3:d.heap.size<wr.heap.size:=zv;have bR:=aw.out.1;have cn:=aw.out.lt;obtain⟨_,bv,bD,cs,aA,aT⟩:=aw.out
   have HV:=zC (visitLearn13_any r.l xs (4096*bit-q) rate x.heap.size (w.heap.size+1) wr.heap.size r.b r.cap gx ox cap cs (x.alloc (Obj.cells #[.int .i64 (4096*bit-q)] 3)) ag.out.1 (by rw[←C.out];exact aQ) ag.out.2.2.1 ag.out.2.2.2 ⟨bN,b1⟩ ⟨by omega,by omega⟩
    (Blk.new x [.int .i64 (4096*bit-q)] 3) (((bZ.out.step a0)).alloc _) (by rw[←C.out];exact aB.out.alloc _) ((aA.step y).alloc _) (by rw[←ag.out.1];exact aT)
    om om (by have:=z.size;omega) (fun j hj=>by
     have h0:=ba j (by rw[zR];exact hj);have h1:w.cell? ⟨gx,ox+j,none⟩=some (.int .i64 (xs.getD j 0)):=by
      rw[h0];simp[zaE,zK,zD hj]
     have bU:Below w w (x.alloc (Obj.cells #[.int .i64 (4096*bit-q)] 3)):=(zA z y).alloc (by have:=z.size;omega) _;exact(bU.cell (zE h1)).trans h1))
   rw[←C.out]at HV;obtain⟨b9,b6,aV,bx⟩:=zh4 ((Hv.out.step y).alloc (Obj.cells #[.int .i64 (4096*bit-q)] 3)) ((bi.out.step a0).alloc (Obj.cells #[.int .i64 (4096*bit-q)] 3)) ((zrY ax.out y).alloc (Obj.cells #[.int .i64 (4096*bit-q)] 3)) ((HR.out.step y).step ((zJ x.heap.size x).alloc (zF _) (Obj.cells #[.int .i64 (4096*bit-q)] 3)));have bO:Below w w (x.alloc (Obj.cells #[.int .i64 (4096*bit-q)] 3)):=(zA z y).alloc (by have:=z.size;omega) _;have bH:=zC ((aA.step y).alloc (Obj.cells #[.int .i64 (4096*bit-q)] 3));clear aA aT;go_wp2_with fail;refine HV.out.mono ?_;rintro e w7 ⟨rfl,⟨bE,bg,bk⟩,P⟩;have aF:=b9.out.grown P by7;have s:=b6.out.grown P by7;have az:=aV.out.kept P (.inr (zaS aV.out bH.out by2));have bh:=bx.out.replace (r':=⟨r.b,r.cap,S13.learnRow (4096*bit-q) rate r.l xs⟩) ay.out P ⟨bR,by rw[S13.learnRow_length];exact bv,bD,bE,bg,by rw[S13.learnRow_length,b2.out];exact bk⟩ rfl;have bB:Below w w w7:=Below.grown bO P (by simp;have:=z.size;omega) (fun j e=>by cases e;omega);have bm:=bh.other (i:=0) (v:=.int .i64 n) s by2;have al:=az.kept (yZ w7 (w.heap.size+2) 0 (.int .i64 n)) (.inr (zaS az s by2));have a9:=bm.other (i:=1) (v:=.slice (some ⟨D,E,none⟩) k A) (s.set 0 (.int .i64 n)) by2;have aZ:=al.kept (yZ _ (w.heap.size+2) 1 (.slice (some ⟨D,E,none⟩) k A)) (.inr (zaS al (s.set 0 (.int .i64 n)) by2))
   have aW:MixNew w.heap.size n (S13.learnL (b.map Row13.l) c xs bit rate) (.agg #[n,.slice (some ⟨D,E,none⟩) k A]) _:=
    ⟨R.set c ⟨r.b,r.cap,S13.learnRow (4096*bit-q) rate r.l xs⟩,some ⟨D,E,none⟩,A,d.heap.size+1,by omega,by rw[or_ok_set ay.out,bJ.out,←bY.out],by rw[yH,←F.out],
      by rw[yH,←F.out,zqH ay.out (S13.learnRow_length _ _ _ _)];exact aZ,a9⟩
   have v0:=aF.cell 0;have v1:=aF.cell 1;have r0:=s.cell 0;have r1:=s.cell 1;have f0:=s.free 0;have f1:=s.free 1;have s1:=((s.set 0 (.int .i64 n)).set 1 (.slice (some ⟨D,E,none⟩) k A)).cell 0;have s2:=((s.set 0 (.int .i64 n)).set 1 (.slice (some ⟨D,E,none⟩) k A)).cell 1;simp only[sC0,sCs,lgz,lgs]at v0 v1 r0 r1 s1 s2;have bP:=zC aW;clear aW bh bm a9 al aZ az aF s bg bk P;go_wp2;refine bodyPost_ret (v:=.tuple #[.agg #[n,.slice (some ⟨D,E,none⟩) k A],.int .i64 0]) (by simp[results,Tryz.results241,go_sem,s1,s2]) rfl ⟨_,rfl,?_,?_⟩
   ·exact bP.out
   ·exact(bB.setCell (by simp only;omega) _).setCell (by simp only;omega) _
theorem zuB(n:Int)(L:List (List Int))(ma:Option Addr)(mc c:Nat)(xs:List Int)(a:Option Addr)(cap:Nat)(bit rate:Int)(w:World)(hV:MixIs n L (.agg #[n,.slice ma L.length mc]) w)(ad:Rd w a (zaE xs))
 (hu:S13.usable 16 n L c xs=0) (bF:0≤bit∧bit≤1) (bI:1≤rate∧rate≤255) :
 Calls Tryz.prog 47 #[.agg #[n,.slice ma L.length mc],c,.slice a xs.length cap,bit,rate] w fun e w'=>
  ∃V,e = .returned (.tuple #[V,.int .i64 0])∧MixNew w.heap.size n (S13.learnL L c xs bit rate) V w'∧Below w w w':=by
 obtain⟨k1,k2,k3,k4,k5,k6,k7⟩:=S13.usable_zero hu;obtain⟨q1,q2,q3,q4,q5⟩:=S13.check_zero k1;simp only[Int.toNat_natCast]at k7;have J:=zC fun W (hb:Below w w W)=>znX n L _ c xs a cap W (hV.step hb) om (ad.step hb);have aZ:S13.mixR n L c xs=S13.mix (L.getD c []) xs:=by unfold S13.mixR;rw[zQ hu];rfl
 rw[hu,aZ]at J;have aQ:=zC fun W (hb:Below w w W)=>copy13_any n L _ W (hV.step hb) k1;have ah:=zC (show S13.learnL L c xs bit rate=L.set c (S13.learnRow (4096*bit-S06.squash (S13.mix (L.getD c []) xs)) rate (L.getD c []) xs)from rfl);have aB:=S06.squash_bounds (S13.mix (L.getD c []) xs);have av:=zC fun W=>zeA (S13.mix (L.getD c []) xs) W;obtain⟨q,hq⟩:=zvJ (S06.squash (S13.mix (L.getD c []) xs));rw[hq]at aB av ah;obtain⟨g,ab⟩:=zvJ (L.getD c []);rw[ab]at ah k7 J av;obtain⟨bm,A,br⟩:=zh3 ab k7 ad;obtain⟨N,ox,rfl,ao⟩:=ad.at (i:=0) (by rw[zR];exact k5);have bf:N<w.heap.size:=zE (ao 0 (by rw[zR];exact k5));have a8:=zC ao;obtain⟨m,hm⟩:∃m,m=L.length:=⟨_,rfl⟩;rw[←hm]at J aQ k3⊢;have Hm:=zC hm;obtain⟨l,hl⟩:∃l,l=xs.length:=⟨_,rfl⟩;rw[←hl]at J k5⊢;have z:=zC hl;have bs:l≤16:=by omega
 have bN:(c:Int)<m:=k3;have bt:(0:Int)≤(c:Int):=by omega
 have aE:(bit=0∧(bit != 0)=false)∨(bit=1∧(bit != 0)=true∧(bit != 1)=false):=by
  rcases(show bit=0∨bit=1 by omega)with rfl|rfl
  ·left;exact⟨rfl,rfl⟩
  ·right;exact⟨rfl,rfl,rfl⟩
 have bH:¬rate<1:=by omega
 have bE:¬255<rate:=by omega
 have e1:IntKind.i64.wrap (4096*bit)=4096*bit:=IntWalk.i64_in _ om;have e2:IntKind.i64.wrap (4096*bit-q)=4096*bit-q:=IntWalk.i64_in _ om;have aL : -4096≤4096*bit-q:=by omega
 have aT:4096*bit-q≤4096:=by omega
 obtain⟨d,ae⟩:∃d,d=4096*bit-q:=⟨_,rfl⟩;rw[←ae]at e2 aL aT ah;have bK:=zC ae;have e3:IntKind.i64.wrap (4096*bit-q)=d:=by rw[←ae];exact e2
 clear hV ad hu k1 k4 k6 k7 aZ hq ab ao hm hl k2 q4 q5 ae aB e2;rcases aE with⟨g0,g1⟩|⟨g0,g1,g2⟩
 all_goals
  clear g0;go_enter Tryz.func47,Tryz.ntmps47;go_wp2_with fail;refine mnx w (J.out _ zo) fun w1 aj bh _=> ?_;have ay:=zC (((Blk.new w [n,.slice ma m mc] 46).alloc (Obj.cells #[.int .i64 0,.slice none 0 0] 46)).step aj)
  have aN:=zC (show Blk w1 (w.heap.size+1) [.int .i64 0,.slice none 0 0] 46 by
   have U:=Blk.new (w.alloc (Obj.cells #[n,.slice ma m mc] 46)) [.int .i64 0,.slice none 0 0] 46;have:=U.step aj;simpa using this)
  clear aj;go_wp2_with fail;refine mnb bh (av.out _) fun Z ar O=> ?_;obtain⟨al,aM⟩:=zh2 (ay.out.step ar) (aN.out.step ar);have a3:=al.out.cell 0;have bo:=al.out.cell 1;have bC:=al.out.lt;simp only[zvH]at a3 bo;clear ar ay aN;go_wp2_with fail;refine(aQ.out _ O).mono ?_;rintro e h ⟨R,oa,s,ba,rfl,ag,bA,K,hR,T⟩;have a1:Below w w h:=zA O T;have bn:=zC (aM.out.step T);have bG:=aM.out.lt;have z3:Z.heap.size≤h.heap.size:=T.size;have aq:R.length=m:=by rw[Hm.out,←ag,yO]
  have ac:c<R.length:=by omega
  obtain⟨r,E⟩:∃r,R[c]? = some r:=⟨R[c],zD ac⟩;have af:r.l=g:=by rw[←bm.out,←ag,zK,yI,E];rfl
  have ax:=hR.1 r (yF E);obtain⟨b,f,rfl,aY⟩:=(Rd.of_owns K).at (i:=c) (by rw[yO];exact ac);have aD:h.cell? ⟨b,f+c,none⟩=some (.slice (some ⟨r.b,0,none⟩) l r.cap):=by
   rw[aY c (by rw[yO];exact ac),List.getElem_map];have U:R[c]=r:=by rw[zD ac]at E;exact zI E
   rw[U,OR13.head,af,A.out.1,z.out]
  have aJ:=zE aD;simp only at aJ;have bL:¬b=r.b:=by
   intro e;obtain⟨_,_,_,cs,S,_⟩:=ax;exact zaS K S by2 (by simp[Value.ownBlock,←e])
  rw[aq]at K⊢;obtain⟨be,a4,a9,cs,S,ak⟩:=ax;have bx:=S.lt;rw[af,A.out.1,←z.out]at ak;obtain⟨bi,aG,bk,aO⟩:=zh4 (Blk.new h [n,.slice (some ⟨b,f,none⟩) m s] 46) S ak K;obtain⟨HR,ap,bc,aH⟩:=zh4 hR E ag af;have aI:=zC aq;clear S ak K hR E ag af aY aq;obtain⟨u,X⟩:∃u,u=h.alloc (Obj.cells #[n,.slice (some ⟨b,f,none⟩) m s] 46):=⟨_,rfl⟩;have t:Below h h u:=by rw[X];exact(zJ _ _).alloc (zF _) _
  have az:Below w w u:=zA a1 t;have bp:=zC X;have z4:u.heap.size=h.heap.size+1:=by rw[X];simp
  go_wp2;rw[←X];clear X;go_loopw [16] (fun i wr=>∃k:Nat,k≤l∧i = .int .i64 k∧(∃G,Blk wr r.b G 3∧G.take l=zaE (S13.upd d rate g xs k))∧u.grownBy wr (some r.b)) (fun i _=>l-(intOf i).toNat)
  case atStart=>exact⟨0,by omega,rfl,⟨cs,aG.out.step t,by rw[S13.upd_zero];exact bk.out⟩,World.grownBy.refl _ _⟩
  case round=>
   obtain⟨k,hk,rfl,⟨G,aP,I⟩,Q⟩:=hrel;have zr:u.heap.size≤wr.heap.size:=Q.size;obtain⟨M,am,D⟩:=zh3 aP I Q;have hv:=(by rw[bp.out];exact bi.out:Blk u h [n,.slice (some ⟨b,f,none⟩) m s] 46).grown Q by7;have Hv:=zC hv;obtain⟨bu,aS⟩:=hv.c2;have au:wr.cell? ⟨b,f+c,none⟩=some (.slice (some ⟨r.b,0,none⟩) l r.cap):=Q.cell ((t.cell (p:=⟨b,f+c,none⟩) aJ).trans aD) by7;clear aP I Q hv;by_cases aa:k<l
   ·have bD:(k:Int)<l:=by omega
    have bw:(0:Int)≤(k:Int):=by omega
    have ab:g.length=l:=by rw[A.out.1,z.out]
    have a5:wr.cell? ⟨N,ox+k,none⟩=some (.int .i64 (xs.getD k 0)):=by
     have U:=a8.out k (by rw[zR,←z.out];exact aa);have h1:w.cell? ⟨N,ox+k,none⟩=some (.int .i64 (xs.getD k 0)):=by
      rw[U];simp[zaE,zK,zD (show k<xs.length by rw[←z.out];exact aa)]
     exact D.out.cell ((az.cell (p:=⟨N,ox+k,none⟩) bf).trans h1) by7
    have aw:wr.cell? ⟨r.b,k,none⟩=some (.int .i64 (g.getD k 0)):=by
     rw[M.out.cell];have h5:(G.take l)[k]? = some (.int .i64 (g.getD k 0)):=by
      rw[am.out,zaE,yI,S13.upd_at d rate g xs om];rfl
     rw[zbG,zQ aa]at h5;exact h5
    have bl:=S13.getD_mem (P:=fun x=> -3071≤x∧x≤3071) A.out.2.2.2 (k:=k) (by rw[←z.out];exact aa);have aE:=S13.getD_mem (P:=fun x=> -1048576≤x∧x≤1048576) A.out.2.2.1 (k:=k) om;have a7:=zC (S13.upd_succ d rate g xs (k:=k) om A.out.1);generalize xs.getD k 0=x at *;generalize g.getD k 0=H at *;obtain⟨⟨p1,p2⟩,p3,p4⟩:=S13.prod_abs bl ⟨aL,aT⟩ (show 0≤rate∧rate≤255 by omega);have bv:=S06.round_abs (n:=x*d*rate) (d:=16384) (B:=3207598080) om om om;have a2:=zC fun W=>zgL (x*d*rate) 16384 W om om om om;have bb:=zC (show S13.lw d rate H x=max (-1048576) (min (H+S06.round (x*d*rate) 16384) 1048576)from rfl);have f1:IntKind.i64.wrap (x*d)=x*d:=IntWalk.i64_in _ om;have f2:IntKind.i64.wrap (x*d*rate)=x*d*rate:=IntWalk.i64_in _ om;have f3:IntKind.i64.wrap (H+S06.round (x*d*rate) 16384)=H+S06.round (x*d*rate) 16384:=IntWalk.i64_in _ om;generalize S06.round (x*d*rate) 16384=rd at *;have bg:wr.frozen? ⟨r.b,k,none⟩=false:=M.out.free k;have aA:=M.out.lt;have bq:b<wr.heap.size:=zE au;have bj:=Hv.out.lt;go_wp2;refine zbX 19 (Keeps wr [(⟨h,1,none⟩,.slice (some ⟨b,f,none⟩) m s),(⟨b,f+c,none⟩,.slice (some ⟨r.b,0,none⟩) l r.cap),(⟨r.b,k,none⟩,H),(⟨N,ox+k,none⟩,x)]) zk rfl zk (Keeps.start (by simp only[Cells];exact⟨aS,au,aw,a5,zT⟩)) (fun Y F hY hF=> ?_)
    repeat
     apply yN (by rw[hY];rfl)
     ·intro Z ⟨O,y⟩;simp only[Cells]at y;go_simp;with_reducible rfl
     simp only[zvF]
    apply zcF (by rw[hY];rfl)
    ·intro Z ⟨O,y⟩;simp only[Cells]at y;go_simp;with_reducible exact⟨rfl,rfl⟩
    ·intro Z aU;have y:=aU.2;simp only[Cells]at y;refine(a2.out _).mono ?_;rintro e h ⟨rfl,T⟩;exact⟨rfl,aU.step T⟩
    simp only[zvF]
    repeat
     apply yN (by rw[hY];rfl)
     ·intro Z ⟨O,y⟩;simp only[Cells]at y;go_simp;with_reducible rfl
     simp only[zvF]
    refine hF.out _ (fun w5 aW=> ?_);clear hF hY;have C:=aW.1;have bM:=(C.cell (p:=⟨h,1,none⟩) bj).trans aS;have bB:=(C.cell (p:=⟨b,f+c,none⟩) bq).trans au;have bJ:=(C.cell (p:=⟨r.b,k,none⟩) aA).trans aw;have bz:w5.frozen? ⟨r.b,k,none⟩=false:=(C.frozen (p:=⟨r.b,k,none⟩) aA).trans bg;have z5:wr.heap.size≤w5.heap.size:=C.size;have aC:=zC C;clear aW;go_wp2;go_roundw
    case rel=>
     refine⟨k+1,by omega,by go_num,⟨G.set k (.int .i64 (S13.lw d rate H x)),?_,?_⟩,?_⟩
     ·rw[bb.out];exact(M.out.step aC.out).set k _
     ·rw[List.take_set,am.out,←ztO,a7.out]
     ·exact(D.out.trans (zkG aC.out _)).trans (yZ w5 r.b k _)
    case measure=>simp[intOf];omega
   ·obtain rfl:k=l:=by omega
    have a0:g.length=k:=by rw[A.out.1,z.out]
    have I:=am.out;rw[show S13.upd d rate g xs k=S13.learnRow d rate g xs by rw[←a0,S13.upd_all]]at I;have o:=((bn.out.step t).grown D.out by7);have an:=(zrY aO.out t).kept D.out (.inr (zaS (zrY aO.out t) (aG.out.step t) by2));have aV:=(HR.out.step t).replace (r':=⟨r.b,r.cap,S13.learnRow d rate g xs⟩) ap.out D.out ⟨be,by rw[S13.learnRow_length,←aH.out];exact a4,a9,G,M.out,by rw[S13.learnRow_length,a0];exact I⟩ rfl;have a6:Below w w wr:=Below.grown az D.out om (fun j e=>by cases e;omega);have aX:=aV.other (i:=0) (v:=.int .i64 n) o by2;have ai:=an.kept (yZ wr (w.heap.size+1) 0 (.int .i64 n)) (.inr (zaS an o by2));have aR:=aX.other (i:=1) (v:=.slice (some ⟨b,f,none⟩) m s) (o.set 0 (.int .i64 n)) by2;have aK:=ai.kept (yZ _ (w.heap.size+1) 1 (.slice (some ⟨b,f,none⟩) m s)) (.inr (zaS ai (o.set 0 (.int .i64 n)) by2))
    have aF:MixNew w.heap.size n (S13.learnL L c xs bit rate) (.agg #[n,.slice (some ⟨b,f,none⟩) m s]) _:=
     ⟨R.set c ⟨r.b,r.cap,S13.learnRow d rate g xs⟩,some ⟨b,f,none⟩,s,ba,by omega,by rw[or_ok_set ap.out,bc.out,←ah.out],by rw[yH,aI.out],by rw[yH,aI.out,zqH ap.out (by rw[S13.learnRow_length,aH.out])];exact aK,aR⟩
    have r0:=o.cell 0;have r1:=o.cell 1;have f0:=o.free 0;have f1:=o.free 1;have s1:=((o.set 0 (.int .i64 n)).set 1 (.slice (some ⟨b,f,none⟩) m s)).cell 0;have s2:=((o.set 0 (.int .i64 n)).set 1 (.slice (some ⟨b,f,none⟩) m s)).cell 1;simp only[sC0,sCs,lgz,lgs]at r0 r1 s1 s2;have bd:=zC aF;clear aF aV aX aR ai aK an o I;go_wp2;refine bodyPost_ret (v:=.tuple #[.agg #[n,.slice (some ⟨b,f,none⟩) m s],.int .i64 0]) (by simp[results,Tryz.results47,go_sem,s1,s2]) rfl ⟨_,rfl,?_,?_⟩
    ·exact bd.out
    ·exact(a6.setCell (by simp only;omega) _).setCell (by simp only;omega) _
