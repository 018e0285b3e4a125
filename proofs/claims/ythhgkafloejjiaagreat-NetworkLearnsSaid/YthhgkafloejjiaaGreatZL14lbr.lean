/- A part of the proof of L14l. No condition. -/
import Derived.Test.YthhgkafloejjiaaGreatZL14lax
import Derived.Test.YthhgkafloejjiaaGreatZL14lbe
import Derived.Test.YthhgkafloejjiaaGreatZL14lbk
import Derived.Test.YthhgkafloejjiaaGreatZL14lbn
set_option linter.all false
set_option maxRecDepth 100000
set_option maxHeartbeats 40000000
namespace Go.Proofs.YthhgkafloejjiaaGreat
open Go.RowKit
attribute [local irreducible] Go.wpList
namespace S14
def big(p:P):Prop:=300<p.ctrs.length∨1100<p.sd.length∨(6<p.sb∧p.sb<60)∨200<p.m.bytes.length∨100<p.m.heads.length∨(6<p.m.bits∧p.m.bits<60)∨60<p.m.ctrs.length∨100<p.mw.length∨2200<p.ac.length∨∃r∈p.mw,40<r.length
def small(N:N):Prop:=fewC N.comps=true∧N.parts.length≤40∧N.ctxs.length≤60∧∀p∈N.parts,¬big p
end S14
theorem zeT{w w':World}{b:Nat}(d:w.grownBy w' (some b)){g o:Nat}{v:Value}(h:w.cell? ⟨g,o,none⟩=some v)(c:g≠b):w'.cell? ⟨g,o,none⟩=some v:=by
 have a:=zE h;unfold World.cell? at h⊢;rw[d.block g a (fun e=>c (zI e))];exact h
theorem NRaw.part_at{N:S14.N}{L:NLay}{w:World}(h:NRaw N L w){k:Nat}(d:k<N.parts.length):∃b o p y,L.a2=some ⟨b,o,none⟩∧N.parts[k]? = some p∧L.ys[k]? = some y∧w.rangeAt b (o+k*16) (yB p y)∧PRaw p y w:=by
 obtain⟨p,a⟩:∃p,N.parts[k]? = some p:=⟨_,zD d⟩;obtain⟨y,c⟩:∃y,L.ys[k]? = some y:=⟨_,zD (by rw[h.ly];exact d)⟩;obtain⟨b,o,e,i⟩:=h.rp (fun e=>by have f:=yG List.length e;rw[zcM _ _ h.ly]at f;simp at f;omega);refine⟨b,o,p,y,e,a,c,fun j v g=> ?_,h.ps k p y a c⟩;have l:j<16:=by have:=(List.getElem?_eq_some_iff.1 g).1;rwa[zaU]at this
 have:=i (16*k+j) v ((PCs_at _ _ a c l).trans g);rw[show o+(16*k+j)=o+k*16+j by omega]at this;exact this
theorem few14_any(N:S14.N)(L:NLay)(w:World)(hN:NRaw N L w)(R:Bool)(hR:R=true↔S14.small N) :
 Calls Tryz.prog 4 #[NV N L] w fun e w'=>e = .returned (.bool R)∧Below w w w':=by
 have HF:=zC fun(W:World) (hW:Below w w W)=>fewC14_any N.comps L.a1 L.c1 W (hN.rc.step hW);obtain⟨HN,m⟩:=zh2 hN hR;unfold NV zaN;obtain⟨W1,aM,k1,B1⟩:=al1 w [.slice L.a1 N.comps.length L.c1,.slice L.a2 N.parts.length L.c2,.slice L.a3 N.ctxs.length L.c3,N.part] 26;obtain⟨F,hF⟩:=zvJ (S14.fewC N.comps);rw[hF]at HF;have aI:=zC hF;obtain⟨nc,np,nx,pt,au,ap,av,aD⟩:=zz4 N.comps.length N.parts.length N.ctxs.length N.part;rw[au]at HF;rw[au,ap,av,aD]at aM k1;rw[au,ap,av,aD];obtain⟨an,aK⟩:=zh2 ap av;clear au ap av aD hF hN hR;have c0:=k1.cell 0;simp only[zvH]at c0;go_enter Tryz.func4,Tryz.ntmps4;go_wp2_with (rw[aM]);refine mnb B1 (HF.out _ B1) fun w2 a aj=> ?_;have k2:=k1.step a;clear k1 c0;obtain⟨_,c1,c2⟩:=k2.c3;cases F with
 | false=>
   obtain rfl:R=false:=by rw[Bool.eq_false_iff];intro e;have:=(m.out.1 e).1;rw[aI.out]at this;cases this
   go_wp2_with fail;exact mf2 aj
 | true=>
 by_cases P:40<np
 ·have d:(40:Int)<np:=by omega
  obtain rfl:R=false:=by rw[Bool.eq_false_iff];intro e;have:=(m.out.1 e).2.1;rw[an.out]at this;omega
  go_wp2_with fail;exact mf2 aj
 have aZ:¬(40:Int)<np:=by omega
 by_cases aX:60<nx
 ·have d:(60:Int)<nx:=by omega
  obtain rfl:R=false:=by rw[Bool.eq_false_iff];intro e;have:=(m.out.1 e).2.2.1;rw[aK.out]at this;omega
  go_wp2_with fail;exact mf2 aj
 have aV:¬(60:Int)<nx:=by omega
 go_wp2_with fail;clear c1 c2;go_loopw [3] (fun i wr=>∃k:Nat,k≤np∧i = .int .i64 (k:Int)∧RowKit.Hid (∀(j:Nat) (x:S14.P),j<k→N.parts[j]? = some x→¬S14.big x)∧Blk wr w [.slice L.a1 nc L.c1,.slice L.a2 np L.c2,.slice L.a3 nx L.c3,pt] 26∧Below w w wr) (fun i _=>np-(intOf i).toNat)
 case atStart=>exact⟨0,by omega,rfl,zC (fun j x u=>by omega),k2,aj⟩
 case round=>
  clear k2 aj;obtain⟨k,hk,rfl,ai,kr,b⟩:=hrel;have c1:=kr.cell 1;simp only[zvH]at c1;by_cases aQ:k<np
  ·obtain⟨bb,ob,p,y,aB,hp,hy,aP,aN⟩:=HN.out.part_at (k:=k) (by rw[an.out];exact aQ);rw[aB]at c1 kr;have aY:(k:Int)<(np:Int):=by omega
   have aO:=yV aP b;have aC:some 16=some (yB p y).length:=rfl;have aA:(yB S14.P0 zfF).length=(yB p y).length:=rfl;have s:=zbC p y;have Hp:=zC hp;obtain⟨W2,aF⟩:=zvJ (wr.alloc (.cells zP 50));have kz:Blk W2 wr (yB S14.P0 zfF) 50:=by rw[←aF];exact zfH wr
   have a:Below wr wr W2:=by rw[←aF];exact(zJ _ _).alloc (zF _) _
   have ab:=kr.step a;obtain⟨Q,hQ⟩:=zvJ wr.heap.size;have aW:w.heap.size<Q:=hQ▸kr.lt;rw[hQ]at kz;obtain⟨ar,ak,ax,aJ,aq,aR,aS,aH,aG⟩:=aN.mix;obtain⟨aw,am,ay⟩:=zh3 aJ (aH.step b) (fun r hr=>(aG r hr).step b);clear hp hy aP aN aH aG;obtain⟨VS,ah⟩:=zvJ (yB p y);rw[ah]at aO aC aA s;unfold yB at ah;unfold MixC at aq;obtain⟨l1,l2,sb,lb,H,J,G,K⟩:=zz4 p.ctrs.length p.sd.length p.sb p.m.bytes.length;obtain⟨lh,q,B,f,D,I,M,C⟩:=zz4 p.m.heads.length p.m.bits p.m.ctrs.length p.mw.length;obtain⟨A,O⟩:=zvJ p.ac.length;rw[H,J,G,K,D,I,M,C,O]at ah;rw[C]at aq;have V:Hid (VS[0]? = some (.slice y.a1 l1 y.c1)∧VS[1]? = some (.int .i64 sb)∧VS[2]? = some (.slice y.a2 l2 y.c2)∧VS[4]? = some (.int .i64 q)∧VS[6]? = some (.slice y.pl.ah lh y.pl.ch)∧VS[7]? = some (.slice y.pl.ab lb y.pl.cb)∧VS[12]? = some (.slice y.pl.ac B y.pl.cc)∧VS[14]? = some (.slice y.a3 f y.c3)∧VS[15]? = some (.slice y.a4 A y.c4)):=zC (by subst ah;exact⟨rfl,rfl,rfl,rfl,rfl,rfl,rfl,rfl,rfl⟩);obtain⟨ao,aL,aT,H1⟩:=zh4 aq aC aA s;have az:=zC aB;clear ah aq aC aA s aB aJ aR aS;have E:=zC (zZ H (zZ J (zZ G (zZ K (zZ D (zZ I (zZ M (zZ C O))))))));clear H J G K D I M C O
   have c:Hid (300<l1∨1100<l2∨(6<sb∧sb<60)∨200<lb∨100<lh∨(6<q∧q<60)∨60<B∨100<f∨2200<A∨(∃r∈p.mw,40<r.length)→R=false):=zC fun h=>by
    obtain⟨H,J,G,K,D,I,M,C,O⟩:=E.out;rw[Bool.eq_false_iff];intro e;exact(m.out.1 e).2.2.2 p (yF Hp.out) (by unfold S14.big;rw[H,J,G,K,D,I,M,C,O];exact h)
   go_wp2_with (first
    | ((with_reducible show wpList _ _ _ (Oper.mk _ (.alloc _) _ _ _ _::_) _ _);refine zaK 50 zP zdF by3 by3 ?_;rw[aF,hQ])
    | ((with_reducible show wpList _ _ _ (Oper.mk _ (.load _ _) _ _ _ _::_) _ _);refine wpList_load_mid by3 50 (.tmp 32) by3 bb (ob+k*16) by3 VS _ aO Tryz.underlying50 rfl (info_P.trans aL.out) ?_)
    | ((with_reducible show wpList _ _ _ (Oper.mk _ (.store _ _ _) _ _ _ _::_) _ _);refine st50 (.tmp 4) (.tmp 33) VS kz ?_ aL.out aT.out H1.out))
   intro wL EL l sL;clear sL;have q0:=(EL.cell 0).trans V.out.1;have q1:=(EL.cell 1).trans V.out.2.1;have q2:=(EL.cell 2).trans V.out.2.2.1;have q4:=(EL.cell 4).trans V.out.2.2.2.1;have q6:=(EL.cell 6).trans V.out.2.2.2.2.1;have q7:=(EL.cell 7).trans V.out.2.2.2.2.2.1;have a0:=(EL.cell 12).trans V.out.2.2.2.2.2.2.1;have al:=(EL.cell 14).trans V.out.2.2.2.2.2.2.2.1;have aU:=(EL.cell 15).trans V.out.2.2.2.2.2.2.2.2;by_cases d0:300<l1
   ·have z0:decide ((300:Int)<(l1:Int))=true:=zO om;obtain rfl:R=false:=c.out (.inl d0);clear c m;go_wp2_with (first
     | ((with_reducible show wpList _ _ _ (Oper.mk _ _ _ _ _ (some (_,true))::_) _ _);refine wpList_skip by3 ?_;simp only[zvF]))
    all_goals go_returns
    all_goals exact⟨rfl,(zA b a).trans (yA l om (zA b a).size)⟩
   have z0:decide ((300:Int)<(l1:Int))=false:=zL om;by_cases d1:1100<l2
   ·have z1:decide ((1100:Int)<(l2:Int))=true:=zO om;obtain rfl:R=false:=c.out (.inr (.inl d1));clear c m;go_wp2_with (first
     | ((with_reducible show wpList _ _ _ (Oper.mk _ _ _ _ _ (some (_,true))::_) _ _);refine wpList_skip by3 ?_;simp only[zvF]))
    all_goals go_returns
    all_goals exact⟨rfl,(zA b a).trans (yA l om (zA b a).size)⟩
   have z1:decide ((1100:Int)<(l2:Int))=false:=zL om;by_cases d2:6<sb
   ·have z2:decide (6<sb)=true:=zO d2;by_cases f2:sb<60
    ·have y2:decide (sb<60)=true:=zO f2;obtain rfl:R=false:=c.out (.inr (.inr (.inl ⟨d2,f2⟩)));clear c m;go_wp2_with (first
      | ((with_reducible show wpList _ _ _ (Oper.mk _ _ _ _ _ (some (_,true))::_) _ _);refine wpList_skip by3 ?_;simp only[zvF]))
     all_goals go_returns
     all_goals exact⟨rfl,(zA b a).trans (yA l om (zA b a).size)⟩
    have y2:decide (sb<60)=false:=zL f2;by_cases d3:200<lb
    ·have z3:decide ((200:Int)<(lb:Int))=true:=zO om;obtain rfl:R=false:=c.out (.inr (.inr (.inr (.inl d3))));clear c m;go_wp2_with (first
      | ((with_reducible show wpList _ _ _ (Oper.mk _ _ _ _ _ (some (_,true))::_) _ _);refine wpList_skip by3 ?_;simp only[zvF]))
     all_goals go_returns
     all_goals exact⟨rfl,(zA b a).trans (yA l om (zA b a).size)⟩
    have z3:decide ((200:Int)<(lb:Int))=false:=zL om;by_cases d4:100<lh
    ·have z4:decide ((100:Int)<(lh:Int))=true:=zO om;obtain rfl:R=false:=c.out (.inr (.inr (.inr (.inr (.inl d4)))));clear c m;go_wp2_with (first
      | ((with_reducible show wpList _ _ _ (Oper.mk _ _ _ _ _ (some (_,true))::_) _ _);refine wpList_skip by3 ?_;simp only[zvF]))
     all_goals go_returns
     all_goals exact⟨rfl,(zA b a).trans (yA l om (zA b a).size)⟩
    have z4:decide ((100:Int)<(lh:Int))=false:=zL om;by_cases d5:6<q
    ·have z5:decide (6<q)=true:=zO d5;by_cases f5:q<60
     ·have y5:decide (q<60)=true:=zO f5;obtain rfl:R=false:=c.out (.inr (.inr (.inr (.inr (.inr (.inl ⟨d5,f5⟩))))));clear c m;go_wp2_with (first
       | ((with_reducible show wpList _ _ _ (Oper.mk _ _ _ _ _ (some (_,true))::_) _ _);refine wpList_skip by3 ?_;simp only[zvF]))
      all_goals go_returns
      all_goals exact⟨rfl,(zA b a).trans (yA l om (zA b a).size)⟩
     have y5:decide (q<60)=false:=zL f5;by_cases d6:60<B
     ·have z6:decide ((60:Int)<(B:Int))=true:=zO om;obtain rfl:R=false:=c.out (.inr (.inr (.inr (.inr (.inr (.inr (.inl d6)))))));clear c m;go_wp2_with (first
       | ((with_reducible show wpList _ _ _ (Oper.mk _ _ _ _ _ (some (_,true))::_) _ _);refine wpList_skip by3 ?_;simp only[zvF]))
      all_goals go_returns
      all_goals exact⟨rfl,(zA b a).trans (yA l om (zA b a).size)⟩
     have z6:decide ((60:Int)<(B:Int))=false:=zL om;by_cases d7:100<f
     ·have z7:decide ((100:Int)<(f:Int))=true:=zO om;obtain rfl:R=false:=c.out (.inr (.inr (.inr (.inr (.inr (.inr (.inr (.inl d7))))))));clear c m;go_wp2_with (first
       | ((with_reducible show wpList _ _ _ (Oper.mk _ _ _ _ _ (some (_,true))::_) _ _);refine wpList_skip by3 ?_;simp only[zvF]))
      all_goals go_returns
      all_goals exact⟨rfl,(zA b a).trans (yA l om (zA b a).size)⟩
     have z7:decide ((100:Int)<(f:Int))=false:=zL om;by_cases d8:2200<A
     ·have z8:decide ((2200:Int)<(A:Int))=true:=zO om;obtain rfl:R=false:=c.out (.inr (.inr (.inr (.inr (.inr (.inr (.inr (.inr (.inl d8)))))))));clear c m;go_wp2_with (first
       | ((with_reducible show wpList _ _ _ (Oper.mk _ _ _ _ _ (some (_,true))::_) _ _);refine wpList_skip by3 ?_;simp only[zvF]))
      all_goals go_returns
      all_goals exact⟨rfl,(zA b a).trans (yA l om (zA b a).size)⟩
     have z8:decide ((2200:Int)<(A:Int))=false:=zL om;go_wp2_with (first
      | ((with_reducible show wpList _ _ _ (Oper.mk _ _ _ _ _ (some (_,true))::_) _ _);refine wpList_skip by3 ?_;simp only[zvF]))
     have BL:=(zA b a).trans (yA l om (zA b a).size);have kL:=ab.keptRow l (fun e=>by have e:w.heap.size=Q:=zI e;omega);have af:y.a3=ak∧f=ar.length∧y.c3=ax:=by simpa using ao.out
     obtain⟨X,S,_⟩:=af;rw[X]at al
     have ae:Hid (∀(g o:Nat) (v:Value),wr.cell? ⟨g,o,none⟩=some v→wL.cell? ⟨g,o,none⟩=some v):=zC fun g o v h=>by
      have s:=zE h;have s:g<wr.heap.size:=s;exact zeT l ((a.cell (zE h)).trans h) om
     have ac:=zC S;clear X S l ab a;go_loopw [5] (fun i wv=>∃r:Nat,r≤f∧i = .int .i64 (r:Int)∧RowKit.Hid (∀(j:Nat) (z:List Int),j<r→p.mw[j]? = some z→¬40<z.length)∧wv=wL) (fun i _=>f-(intOf i).toNat)
     case atStart=>exact⟨0,by omega,rfl,zC (fun j x u=>by omega),rfl⟩
     case round=>
      obtain⟨r,hr,rfl,U,rfl⟩:=hrel;by_cases ag:r<f
      ·have aE:(r:Int)<(f:Int):=by omega
       obtain⟨n,g3,o3,Y,rfl,T,_,_⟩:=zdZ am.out ay.out (k:=r) (by rw[←ac.out];exact ag);have c3:=ae.out _ _ _ T;have aa:=zC (show p.mw[r]? = some n.l by rw[aw.out,yI,Y];rfl);clear T Y;by_cases P:40<n.l.length
       ·have ad:(40:Int)<(n.l.length:Int):=by omega
        obtain rfl:R=false:=c.out (.inr (.inr (.inr (.inr (.inr (.inr (.inr (.inr (.inr ⟨n.l,yF aa.out,P⟩)))))))));clear c m;exact mf1 BL
       ·have ad:¬(40:Int)<(n.l.length:Int):=by omega
        have t:Hid (∀(j:Nat) (z:List Int),j<r+1→p.mw[j]? = some z→¬40<z.length):=zC fun j z u d=>by
         rcases yU j r with h|h
         ·exact U.out j z h d
         ·obtain rfl:j=r:=by omega
          rw[aa.out]at d;cases d;exact P
        go_wp2;go_roundw
        case rel=>exact⟨r+1,by omega,by go_num,t,by first|rfl|trivial⟩
        case measure=>simp[intOf];omega
      ·obtain rfl:r=f:=by omega
       have t:Hid (∀(j:Nat) (x:S14.P),j<k+1→N.parts[j]? = some x→¬S14.big x):=zC fun j z u d=>by
        rcases yU j k with h|h
        ·exact ai.out j z h d
        ·obtain rfl:j=k:=by omega
         rw[Hp.out]at d;cases d;obtain⟨H,J,G,K,D,I,M,C,O⟩:=E.out;unfold S14.big;rw[H,J,G,K,D,I,M,C,O];rintro(h|h|h|h|h|h|h|h|h|⟨z,d,h⟩);all_goals first|omega|skip
         obtain⟨i,Z⟩:=List.getElem?_of_mem d;exact U.out i z (by have:=(List.getElem?_eq_some_iff.1 Z).1;omega) Z h
       go_wp2;go_roundw
       case rel=>
        rw[←az.out]at kL;exact⟨k+1,by omega,by go_num,t,kL,BL⟩
       case measure=>simp[intOf];omega
    have z5:decide (6<q)=false:=zL d5;by_cases d6:60<B
    ·have z6:decide ((60:Int)<(B:Int))=true:=zO om;obtain rfl:R=false:=c.out (.inr (.inr (.inr (.inr (.inr (.inr (.inl d6)))))));clear c m;go_wp2_with (first
      | ((with_reducible show wpList _ _ _ (Oper.mk _ _ _ _ _ (some (_,true))::_) _ _);refine wpList_skip by3 ?_;simp only[zvF]))
     all_goals go_returns
     all_goals exact⟨rfl,(zA b a).trans (yA l om (zA b a).size)⟩
    have z6:decide ((60:Int)<(B:Int))=false:=zL om;by_cases d7:100<f
    ·have z7:decide ((100:Int)<(f:Int))=true:=zO om;obtain rfl:R=false:=c.out (.inr (.inr (.inr (.inr (.inr (.inr (.inr (.inl d7))))))));clear c m;go_wp2_with (first
      | ((with_reducible show wpList _ _ _ (Oper.mk _ _ _ _ _ (some (_,true))::_) _ _);refine wpList_skip by3 ?_;simp only[zvF]))
     all_goals go_returns
     all_goals exact⟨rfl,(zA b a).trans (yA l om (zA b a).size)⟩
    have z7:decide ((100:Int)<(f:Int))=false:=zL om;by_cases d8:2200<A
    ·have z8:decide ((2200:Int)<(A:Int))=true:=zO om;obtain rfl:R=false:=c.out (.inr (.inr (.inr (.inr (.inr (.inr (.inr (.inr (.inl d8)))))))));clear c m;go_wp2_with (first
      | ((with_reducible show wpList _ _ _ (Oper.mk _ _ _ _ _ (some (_,true))::_) _ _);refine wpList_skip by3 ?_;simp only[zvF]))
     all_goals go_returns
     all_goals exact⟨rfl,(zA b a).trans (yA l om (zA b a).size)⟩
    have z8:decide ((2200:Int)<(A:Int))=false:=zL om;go_wp2_with (first
     | ((with_reducible show wpList _ _ _ (Oper.mk _ _ _ _ _ (some (_,true))::_) _ _);refine wpList_skip by3 ?_;simp only[zvF]))
    have BL:=(zA b a).trans (yA l om (zA b a).size);have kL:=ab.keptRow l (fun e=>by have e:w.heap.size=Q:=zI e;omega);have af:y.a3=ak∧f=ar.length∧y.c3=ax:=by simpa using ao.out
    obtain⟨X,S,_⟩:=af;rw[X]at al
    have ae:Hid (∀(g o:Nat) (v:Value),wr.cell? ⟨g,o,none⟩=some v→wL.cell? ⟨g,o,none⟩=some v):=zC fun g o v h=>by
     have s:=zE h;have s:g<wr.heap.size:=s;exact zeT l ((a.cell (zE h)).trans h) om
    have ac:=zC S;clear X S l ab a;go_loopw [5] (fun i wv=>∃r:Nat,r≤f∧i = .int .i64 (r:Int)∧RowKit.Hid (∀(j:Nat) (z:List Int),j<r→p.mw[j]? = some z→¬40<z.length)∧wv=wL) (fun i _=>f-(intOf i).toNat)
    case atStart=>exact⟨0,by omega,rfl,zC (fun j x u=>by omega),rfl⟩
    case round=>
     obtain⟨r,hr,rfl,U,rfl⟩:=hrel;by_cases ag:r<f
     ·have aE:(r:Int)<(f:Int):=by omega
      obtain⟨n,g3,o3,Y,rfl,T,_,_⟩:=zdZ am.out ay.out (k:=r) (by rw[←ac.out];exact ag);have c3:=ae.out _ _ _ T;have aa:=zC (show p.mw[r]? = some n.l by rw[aw.out,yI,Y];rfl);clear T Y;by_cases P:40<n.l.length
      ·have ad:(40:Int)<(n.l.length:Int):=by omega
       obtain rfl:R=false:=c.out (.inr (.inr (.inr (.inr (.inr (.inr (.inr (.inr (.inr ⟨n.l,yF aa.out,P⟩)))))))));clear c m;exact mf1 BL
      ·have ad:¬(40:Int)<(n.l.length:Int):=by omega
       have t:Hid (∀(j:Nat) (z:List Int),j<r+1→p.mw[j]? = some z→¬40<z.length):=zC fun j z u d=>by
        rcases yU j r with h|h
        ·exact U.out j z h d
        ·obtain rfl:j=r:=by omega
         rw[aa.out]at d;cases d;exact P
       go_wp2;go_roundw
       case rel=>exact⟨r+1,by omega,by go_num,t,by first|rfl|trivial⟩
       case measure=>simp[intOf];omega
     ·obtain rfl:r=f:=by omega
      have t:Hid (∀(j:Nat) (x:S14.P),j<k+1→N.parts[j]? = some x→¬S14.big x):=zC fun j z u d=>by
       rcases yU j k with h|h
       ·exact ai.out j z h d
       ·obtain rfl:j=k:=by omega
        rw[Hp.out]at d;cases d;obtain⟨H,J,G,K,D,I,M,C,O⟩:=E.out;unfold S14.big;rw[H,J,G,K,D,I,M,C,O];rintro(h|h|h|h|h|h|h|h|h|⟨z,d,h⟩);all_goals first|omega|skip
        obtain⟨i,Z⟩:=List.getElem?_of_mem d;exact U.out i z (by have:=(List.getElem?_eq_some_iff.1 Z).1;omega) Z h
      go_wp2;go_roundw
      case rel=>
       rw[←az.out]at kL;exact⟨k+1,by omega,by go_num,t,kL,BL⟩
      case measure=>simp[intOf];omega
   have z2:decide (6<sb)=false:=zL d2;by_cases d3:200<lb
   ·have z3:decide ((200:Int)<(lb:Int))=true:=zO om;obtain rfl:R=false:=c.out (.inr (.inr (.inr (.inl d3))));clear c m;go_wp2_with (first
     | ((with_reducible show wpList _ _ _ (Oper.mk _ _ _ _ _ (some (_,true))::_) _ _);refine wpList_skip by3 ?_;simp only[zvF]))
    all_goals go_returns
    all_goals exact⟨rfl,(zA b a).trans (yA l om (zA b a).size)⟩
   have z3:decide ((200:Int)<(lb:Int))=false:=zL om;by_cases d4:100<lh
   ·have z4:decide ((100:Int)<(lh:Int))=true:=zO om;obtain rfl:R=false:=c.out (.inr (.inr (.inr (.inr (.inl d4)))));clear c m;go_wp2_with (first
     | ((with_reducible show wpList _ _ _ (Oper.mk _ _ _ _ _ (some (_,true))::_) _ _);refine wpList_skip by3 ?_;simp only[zvF]))
    all_goals go_returns
    all_goals exact⟨rfl,(zA b a).trans (yA l om (zA b a).size)⟩
   have z4:decide ((100:Int)<(lh:Int))=false:=zL om;by_cases d5:6<q
   ·have z5:decide (6<q)=true:=zO d5;by_cases f5:q<60
    ·have y5:decide (q<60)=true:=zO f5;obtain rfl:R=false:=c.out (.inr (.inr (.inr (.inr (.inr (.inl ⟨d5,f5⟩))))));clear c m;go_wp2_with (first
      | ((with_reducible show wpList _ _ _ (Oper.mk _ _ _ _ _ (some (_,true))::_) _ _);refine wpList_skip by3 ?_;simp only[zvF]))
     all_goals go_returns
     all_goals exact⟨rfl,(zA b a).trans (yA l om (zA b a).size)⟩
    have y5:decide (q<60)=false:=zL f5;by_cases d6:60<B
    ·have z6:decide ((60:Int)<(B:Int))=true:=zO om;obtain rfl:R=false:=c.out (.inr (.inr (.inr (.inr (.inr (.inr (.inl d6)))))));clear c m;go_wp2_with (first
      | ((with_reducible show wpList _ _ _ (Oper.mk _ _ _ _ _ (some (_,true))::_) _ _);refine wpList_skip by3 ?_;simp only[zvF]))
     all_goals go_returns
     all_goals exact⟨rfl,(zA b a).trans (yA l om (zA b a).size)⟩
    have z6:decide ((60:Int)<(B:Int))=false:=zL om;by_cases d7:100<f
    ·have z7:decide ((100:Int)<(f:Int))=true:=zO om;obtain rfl:R=false:=c.out (.inr (.inr (.inr (.inr (.inr (.inr (.inr (.inl d7))))))));clear c m;go_wp2_with (first
      | ((with_reducible show wpList _ _ _ (Oper.mk _ _ _ _ _ (some (_,true))::_) _ _);refine wpList_skip by3 ?_;simp only[zvF]))
     all_goals go_returns
     all_goals exact⟨rfl,(zA b a).trans (yA l om (zA b a).size)⟩
    have z7:decide ((100:Int)<(f:Int))=false:=zL om;by_cases d8:2200<A
    ·have z8:decide ((2200:Int)<(A:Int))=true:=zO om;obtain rfl:R=false:=c.out (.inr (.inr (.inr (.inr (.inr (.inr (.inr (.inr (.inl d8)))))))));clear c m;go_wp2_with (first
      | ((with_reducible show wpList _ _ _ (Oper.mk _ _ _ _ _ (some (_,true))::_) _ _);refine wpList_skip by3 ?_;simp only[zvF]))
     all_goals go_returns
     all_goals exact⟨rfl,(zA b a).trans (yA l om (zA b a).size)⟩
    have z8:decide ((2200:Int)<(A:Int))=false:=zL om;go_wp2_with (first
     | ((with_reducible show wpList _ _ _ (Oper.mk _ _ _ _ _ (some (_,true))::_) _ _);refine wpList_skip by3 ?_;simp only[zvF]))
    have BL:=(zA b a).trans (yA l om (zA b a).size);have kL:=ab.keptRow l (fun e=>by have e:w.heap.size=Q:=zI e;omega);have af:y.a3=ak∧f=ar.length∧y.c3=ax:=by simpa using ao.out
    obtain⟨X,S,_⟩:=af;rw[X]at al
    have ae:Hid (∀(g o:Nat) (v:Value),wr.cell? ⟨g,o,none⟩=some v→wL.cell? ⟨g,o,none⟩=some v):=zC fun g o v h=>by
     have s:=zE h;have s:g<wr.heap.size:=s;exact zeT l ((a.cell (zE h)).trans h) om
    have ac:=zC S;clear X S l ab a;go_loopw [5] (fun i wv=>∃r:Nat,r≤f∧i = .int .i64 (r:Int)∧RowKit.Hid (∀(j:Nat) (z:List Int),j<r→p.mw[j]? = some z→¬40<z.length)∧wv=wL) (fun i _=>f-(intOf i).toNat)
    case atStart=>exact⟨0,by omega,rfl,zC (fun j x u=>by omega),rfl⟩
    case round=>
     obtain⟨r,hr,rfl,U,rfl⟩:=hrel;by_cases ag:r<f
     ·have aE:(r:Int)<(f:Int):=by omega
      obtain⟨n,g3,o3,Y,rfl,T,_,_⟩:=zdZ am.out ay.out (k:=r) (by rw[←ac.out];exact ag);have c3:=ae.out _ _ _ T;have aa:=zC (show p.mw[r]? = some n.l by rw[aw.out,yI,Y];rfl);clear T Y;by_cases P:40<n.l.length
      ·have ad:(40:Int)<(n.l.length:Int):=by omega
       obtain rfl:R=false:=c.out (.inr (.inr (.inr (.inr (.inr (.inr (.inr (.inr (.inr ⟨n.l,yF aa.out,P⟩)))))))));clear c m;exact mf1 BL
      ·have ad:¬(40:Int)<(n.l.length:Int):=by omega
       have t:Hid (∀(j:Nat) (z:List Int),j<r+1→p.mw[j]? = some z→¬40<z.length):=zC fun j z u d=>by
        rcases yU j r with h|h
        ·exact U.out j z h d
        ·obtain rfl:j=r:=by omega
         rw[aa.out]at d;cases d;exact P
       go_wp2;go_roundw
       case rel=>exact⟨r+1,by omega,by go_num,t,by first|rfl|trivial⟩
       case measure=>simp[intOf];omega
     ·obtain rfl:r=f:=by omega
      have t:Hid (∀(j:Nat) (x:S14.P),j<k+1→N.parts[j]? = some x→¬S14.big x):=zC fun j z u d=>by
       rcases yU j k with h|h
       ·exact ai.out j z h d
       ·obtain rfl:j=k:=by omega
        rw[Hp.out]at d;cases d;obtain⟨H,J,G,K,D,I,M,C,O⟩:=E.out;unfold S14.big;rw[H,J,G,K,D,I,M,C,O];rintro(h|h|h|h|h|h|h|h|h|⟨z,d,h⟩);all_goals first|omega|skip
        obtain⟨i,Z⟩:=List.getElem?_of_mem d;exact U.out i z (by have:=(List.getElem?_eq_some_iff.1 Z).1;omega) Z h
      go_wp2;go_roundw
      case rel=>
       rw[←az.out]at kL;exact⟨k+1,by omega,by go_num,t,kL,BL⟩
      case measure=>simp[intOf];omega
   have z5:decide (6<q)=false:=zL d5;by_cases d6:60<B
   ·have z6:decide ((60:Int)<(B:Int))=true:=zO om;obtain rfl:R=false:=c.out (.inr (.inr (.inr (.inr (.inr (.inr (.inl d6)))))));clear c m;go_wp2_with (first
     | ((with_reducible show wpList _ _ _ (Oper.mk _ _ _ _ _ (some (_,true))::_) _ _);refine wpList_skip by3 ?_;simp only[zvF]))
    all_goals go_returns
    all_goals exact⟨rfl,(zA b a).trans (yA l om (zA b a).size)⟩
   have z6:decide ((60:Int)<(B:Int))=false:=zL om;by_cases d7:100<f
   ·have z7:decide ((100:Int)<(f:Int))=true:=zO om;obtain rfl:R=false:=c.out (.inr (.inr (.inr (.inr (.inr (.inr (.inr (.inl d7))))))));clear c m;go_wp2_with (first
     | ((with_reducible show wpList _ _ _ (Oper.mk _ _ _ _ _ (some (_,true))::_) _ _);refine wpList_skip by3 ?_;simp only[zvF]))
    all_goals go_returns
    all_goals exact⟨rfl,(zA b a).trans (yA l om (zA b a).size)⟩
   have z7:decide ((100:Int)<(f:Int))=false:=zL om;by_cases d8:2200<A
   ·have z8:decide ((2200:Int)<(A:Int))=true:=zO om;obtain rfl:R=false:=c.out (.inr (.inr (.inr (.inr (.inr (.inr (.inr (.inr (.inl d8)))))))));clear c m;go_wp2_with (first
     | ((with_reducible show wpList _ _ _ (Oper.mk _ _ _ _ _ (some (_,true))::_) _ _);refine wpList_skip by3 ?_;simp only[zvF]))
    all_goals go_returns
    all_goals exact⟨rfl,(zA b a).trans (yA l om (zA b a).size)⟩
   have z8:decide ((2200:Int)<(A:Int))=false:=zL om;go_wp2_with (first
    | ((with_reducible show wpList _ _ _ (Oper.mk _ _ _ _ _ (some (_,true))::_) _ _);refine wpList_skip by3 ?_;simp only[zvF]))
   have BL:=(zA b a).trans (yA l om (zA b a).size);have kL:=ab.keptRow l (fun e=>by have e:w.heap.size=Q:=zI e;omega);have af:y.a3=ak∧f=ar.length∧y.c3=ax:=by simpa using ao.out
   obtain⟨X,S,_⟩:=af;rw[X]at al
   have ae:Hid (∀(g o:Nat) (v:Value),wr.cell? ⟨g,o,none⟩=some v→wL.cell? ⟨g,o,none⟩=some v):=zC fun g o v h=>by
    have s:=zE h;have s:g<wr.heap.size:=s;exact zeT l ((a.cell (zE h)).trans h) om
   have ac:=zC S;clear X S l ab a;go_loopw [5] (fun i wv=>∃r:Nat,r≤f∧i = .int .i64 (r:Int)∧RowKit.Hid (∀(j:Nat) (z:List Int),j<r→p.mw[j]? = some z→¬40<z.length)∧wv=wL) (fun i _=>f-(intOf i).toNat)
   case atStart=>exact⟨0,by omega,rfl,zC (fun j x u=>by omega),rfl⟩
   case round=>
    obtain⟨r,hr,rfl,U,rfl⟩:=hrel;by_cases ag:r<f
    ·have aE:(r:Int)<(f:Int):=by omega
     obtain⟨n,g3,o3,Y,rfl,T,_,_⟩:=zdZ am.out ay.out (k:=r) (by rw[←ac.out];exact ag);have c3:=ae.out _ _ _ T;have aa:=zC (show p.mw[r]? = some n.l by rw[aw.out,yI,Y];rfl);clear T Y;by_cases P:40<n.l.length
     ·have ad:(40:Int)<(n.l.length:Int):=by omega
      obtain rfl:R=false:=c.out (.inr (.inr (.inr (.inr (.inr (.inr (.inr (.inr (.inr ⟨n.l,yF aa.out,P⟩)))))))));clear c m;exact mf1 BL
     ·have ad:¬(40:Int)<(n.l.length:Int):=by omega
      have t:Hid (∀(j:Nat) (z:List Int),j<r+1→p.mw[j]? = some z→¬40<z.length):=zC fun j z u d=>by
       rcases yU j r with h|h
       ·exact U.out j z h d
       ·obtain rfl:j=r:=by omega
        rw[aa.out]at d;cases d;exact P
      go_wp2;go_roundw
      case rel=>exact⟨r+1,by omega,by go_num,t,by first|rfl|trivial⟩
      case measure=>simp[intOf];omega
    ·obtain rfl:r=f:=by omega
     have t:Hid (∀(j:Nat) (x:S14.P),j<k+1→N.parts[j]? = some x→¬S14.big x):=zC fun j z u d=>by
      rcases yU j k with h|h
      ·exact ai.out j z h d
      ·obtain rfl:j=k:=by omega
       rw[Hp.out]at d;cases d;obtain⟨H,J,G,K,D,I,M,C,O⟩:=E.out;unfold S14.big;rw[H,J,G,K,D,I,M,C,O];rintro(h|h|h|h|h|h|h|h|h|⟨z,d,h⟩);all_goals first|omega|skip
       obtain⟨i,Z⟩:=List.getElem?_of_mem d;exact U.out i z (by have:=(List.getElem?_eq_some_iff.1 Z).1;omega) Z h
     go_wp2;go_roundw
     case rel=>
      rw[←az.out]at kL;exact⟨k+1,by omega,by go_num,t,kL,BL⟩
     case measure=>simp[intOf];omega
  ·obtain rfl:k=np:=by omega
   obtain rfl:R=true:=by
    rw[m.out];refine⟨aI.out,by rw[an.out];omega,by rw[aK.out];omega,fun p hp=> ?_⟩;obtain⟨j,u⟩:=List.getElem?_of_mem hp;exact ai.out j p (by have:=(List.getElem?_eq_some_iff.1 u).1;rw[an.out]at this;exact this) u
   exact mf1 b
