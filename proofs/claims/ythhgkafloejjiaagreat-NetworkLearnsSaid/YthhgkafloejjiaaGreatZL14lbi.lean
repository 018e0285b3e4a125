/- A part of the proof of L14l. No condition. -/
import Derived.Deep.CutBlock
import Derived.Deep.DeepCutAuto
import Derived.Test.YthhgkafloejjiaaGreatZL14lbg
set_option linter.all false
set_option maxRecDepth 100000
set_option maxHeartbeats 4000000
namespace Go.Proofs.YthhgkafloejjiaaGreat
open Go.RowKit
theorem Blk.ne_nil{w:World}{b:Nat}{c:List Value}{t t':TypeId}(h:Blk w b c t)(a:Blk w b [] t')(d:c≠ []):False:=by
 unfold Blk at *;rw[h]at a;simp at a;exact d a.1
def NewPl(B:Nat)(p q:Pl):Prop:=(q.ah=p.ah∨∀g o,q.ah=some ⟨g,o,none⟩→B≤g)∧(∀g o,q.ab=some ⟨g,o,none⟩→B≤g)∧(q.ac=p.ac∨∀g o,q.ac=some ⟨g,o,none⟩→B≤g)
theorem zhK{B:Nat}{w w':World}(a:w.heap.size=B)(h:Below B w w'):Below w w w':=by rw[a];exact h
theorem share12{F:Act→World→Prop}{G:Prop}(R:World→Value→Prop){A:Value→Value→Value→Value→Act}(main:(∀b c d a w,R w a→F (A b c d a) w)→G)(e:∀b c d a w,R w a→F (A b c d a) w):G:=main e
theorem zsJ{P:Program}{Y:Array Value→Nat→Option Bool}{Q:Exit→Act→World→Prop}{S:World→Prop}{G:Act→World→Prop}{w:World}{c:Plan Oper}{o:Oper}{a:Act}(n:Nat)(A:List Value)(T:TypeId)(d:Region.wanted o (Y a.tmps)=true)
 (e:(execOp a.eval o).run P w = .ok (.value (.slice (some ⟨w,0,none⟩) n n)) (w.alloc (.cells A.toArray T)))
 (h:∀v b,v = .slice (some ⟨w,0,none⟩) n n→Blk b w.heap.size A T→Below w w b→S b∧zaI P Y Q S G c (a.put o.dst v) b):zaI P Y Q S G (.one o c) a w:=
 have k:=h _ _ rfl (Blk.new w A T) ((zJ _ _).alloc (zF _) _)
 zfZ d e k.1 k.2
theorem zhW{P:Program}{Y:Array Value→Nat→Option Bool}{Q:Exit→Act→World→Prop}{S:World→Prop}{G:Act→World→Prop}{w:World}{l:Plan Oper}{o:Oper}{a:Act}(s x:Operand)(t e:TypeId)(c g:Nat)(p:List Value)(f:Nat)(H:Elems P t e c g p)
 (v:Value) (n:Nat) (xs:List Value) (j:Option Addr) (m cap:Nat) (d:List Value) (A:w.ownsRow f e c v n xs) (L:Rd w j d) (r:a.eval x = .slice j m cap) (B:Region.wanted o (Y a.tmps)=true)
 (D:o.op = .call {callee:=.builtin .append,args:=#[s,x],argTypes:=#[t,t]}) (M:a.eval s=v)
 (K:d.length=m*c) (J:∀u∈d,u.oneCell'=true) (C:n+m≤maxLen) (q:(n+m)*g≤140737488355328) (N:f≤w.heap.size)
 (h:∀u k i b,u = .slice k (n+m) i→b.ownsRow f e c u (n+m) (xs++d)→w.grownBy b v.ownBlock→S b∧zaI P Y Q S G l (a.put o.dst u) b):zaI P Y Q S G (.one o l) a w:=by
 obtain⟨k,i,b,y,z,I⟩:=zeZ (P:=P) (w:=w) s x t e c g p f H D v n xs M A j m cap d r K L J C q N;obtain⟨F,E⟩:=h _ k i b rfl z I;exact zfZ B y F E
theorem S12.search_at(m:S12.M)(i q:Nat)(b:¬(m.bytes.length:Int)<m.least)(c:S12.idx m.bytes m.bits m.least=i)(a:m.heads.getD i 0=(q:Int)) :
 S12.search m = {m with at_:=if(decide (m.len=0)&&decide (0<(q:Int))&&decide (m.least≤(S12.rep m.bytes q:Int)))then(q:Int)else m.at_,len:=if(decide (m.len=0)&&decide (0<(q:Int))&&decide (m.least≤(S12.rep m.bytes q:Int)))then(S12.rep m.bytes q:Int)else m.len,heads:=m.heads.set i m.bytes.length}:=by
 unfold S12.search S12.found;rw[zG b,c,a,Int.toNat_natCast]
theorem S12.search_no(m:S12.M)(i q:Nat)(b:¬(m.bytes.length:Int)<m.least)(c:S12.idx m.bytes m.bits m.least=i)(a:m.heads.getD i 0=(q:Int))(d:¬(m.len=0∧0<q∧m.least≤(S12.rep m.bytes q:Int))) :
 S12.search m = {m with heads:=m.heads.set i m.bytes.length}:=by
 rw[S12.search_at m i q b c a];have:(decide (m.len=0)&&decide (0<(q:Int))&&decide (m.least≤(S12.rep m.bytes q:Int)))=false:=by
  rw[Bool.eq_false_iff];intro h;simp only[zS,yC]at h;exact d ⟨h.1.1,by omega,h.2⟩
 rw[this];rfl
theorem S12.search_yes(m:S12.M)(i q:Nat)(c:¬(m.bytes.length:Int)<m.least)(d:S12.idx m.bytes m.bits m.least=i)(b:m.heads.getD i 0=(q:Int))(a:m.len=0∧0<q∧m.least≤(S12.rep m.bytes q:Int)) :
 S12.search m = {m with at_:=(q:Int),len:=(S12.rep m.bytes q:Int),heads:=m.heads.set i m.bytes.length}:=by
 rw[S12.search_at m i q c d b];have:(decide (m.len=0)&&decide (0<(q:Int))&&decide (m.least≤(S12.rep m.bytes q:Int)))=true:=by
  simp only[zS,yC];exact⟨⟨a.1,by omega⟩,a.2.2⟩
 rw[this];rfl
structure CSt(S:Nat)(w:World)(vs zs:List Value)(gy:Nat)(bs:List Value)(W:World):Prop where
 m:Blk W S vs 43
 r:Blk W (S+1) zs 43
 o:Own W gy 5 bs
 b:Below S w W
theorem zqD(c L y:Nat)(heads b:List Int)(at_ j G bit:Int)(d:List (Int×Int))(p:Pl)(w:World)(bB:1≤c∧c≤16)(hL:1≤L∧L≤32)(hh:heads.length=2^c)
 (ai:∀x∈heads,0≤x∧x≤b.length) (b4:b.length<65536) (aP:G=256+(y:Int)) (hy:y<256) (bW:0≤j∧j≤255) (ci:0≤at_∧at_≤65536)
 (hM:MIs ⟨(c:Int),(L:Int),heads,b,at_,j,G,bit,d⟩ p w) :
 Calls Tryz.prog 89 #[MV ⟨(c:Int),(L:Int),heads,b,at_,j,G,bit,d⟩ p] w fun e w'=>∃p',e = .returned (MV (S12.search (S12.extend ⟨(c:Int),(L:Int),heads,b ++ [(y:Int)],at_,j,1,bit,d⟩)) p')∧MIs (S12.search (S12.extend ⟨(c:Int),(L:Int),heads,b ++ [(y:Int)],at_,j,1,bit,d⟩)) p' w'∧NewPl w.heap.size p p'∧Below w w w':=by
 obtain⟨T,hT⟩:=zvJ (S12.search (S12.extend ⟨(c:Int),(L:Int),heads,b ++ [(y:Int)],at_,j,1,bit,d⟩));rw[hT];obtain⟨M,J,Z,X,t,E⟩:=p;have al:=hM.rdh;have aK:=hM.rdb;have am:=hM.rdc;have bh:=hM.byt;have a7:=hM.lc;simp only at al aK am bh a7;clear hM
 have aW:S12.Byt (b ++ [(y:Int)]):=fun z hz=>by
  rcases List.mem_append.1 hz with hz|hz
  ·exact bh z hz
  ·rw[List.mem_singleton.1 hz];omega
 have cf:IntKind.u8.wrap G=(y:Int):=by rw[aP];simp[IntKind.wrap,IntKind.bits,IntKind.signed];omega
 have ca:G%256=(y:Int):=by omega
 have cg:heads.length≤65536:=by rw[hh];exact zcP (n:=2) om (show c≤16 by omega)
 have b7:1≤heads.length:=by rw[hh];exact Nat.one_le_two_pow
 have aR:∀g o,M=some ⟨g,o,none⟩→g<w.heap.size:=fun g o e=>by
  obtain⟨g2,o2,e2,ad⟩:=al.at (i:=0) (by rw[zR];omega);rw[e]at e2;cases e2;exact zE (ad 0 (by rw[zR];omega))
 have aA:∀g o,t=some ⟨g,o,none⟩→Cts d≠ []→g<w.heap.size:=fun g o e aX=>by
  obtain⟨g2,o2,e2,ad⟩:=am aX;rw[e]at e2;cases e2;cases hx:Cts d with
  | nil=>exact absurd hx aX
  | cons v vs=>exact zE (ad 0 v (by rw[hx];rfl))
 have af:=S12.idx_lt (b ++ [(y:Int)]) (L:Int) (show 1≤(c:Int)∧(c:Int)≤16 by omega);rw[Int.toNat_natCast,←hh]at af
 have HI:=zC fun(ce:L≤b.length+1) W a ap (h:Rd W a (Bts (b ++ [(y:Int)])))=>(by
  have:=rindex12_any (b ++ [(y:Int)]) c L a ap W bB hL by7 by7 aW h;simpa using this:Calls Tryz.prog 113 #[.slice a (b.length+1) ap,c,L] W fun e w'=>e = .returned (.int .i64 (S12.idx (b ++ [(y:Int)]) (c:Int) (L:Int):Int))∧Below W W w')
 have HR:=zC fun(q:Nat) (V:q≤b.length+1) W g o ap (h:Rd W (some ⟨g,o,none⟩) (Bts (b ++ [(y:Int)])))=>(by
  have:=zgS g o ap (b ++ [(y:Int)]) q by7 by7 W h;simpa using this:Calls Tryz.prog 114 #[.slice (some ⟨g,o,none⟩) (b.length+1) ap,q] W fun e w'=>e = .returned (.int .i64 (S12.rep (b ++ [(y:Int)]) q:Int))∧Below W W w')
 have a0:=zC fun(aJ:List Int) (bD bz:Int) (a1 a2:Option Addr) (c1 c2:Nat) (W:World) (h1:aJ.length=heads.length) (r1:Rd W a1 (zaE aJ)) (r2:Rd W a2 (Bts (b ++ [(y:Int)]))) (r3:Rd W t (Cts d)) (h2:b.length+1≤c2)=>
  (⟨r1,r2,r3,aW,by simpa using h2,by simp only;omega,by simp;omega,a7⟩:MIs ⟨(c:Int),(L:Int),aJ,b ++ [(y:Int)],bD,bz,1,bit,d⟩ ⟨a1,c1,a2,c2,t,E⟩ W)
 unfold MV yX;simp only;have B0:=Blk.new w [c,L,.slice M heads.length J,.slice Z b.length X,at_,j,G,bit,.slice t d.length E] 43;obtain⟨S,hS⟩:=zvJ w.heap.size;rw[hS]at B0 aR aA⊢;have B1:=B0.alloc (.cells #[.int .i64 0,.int .i64 0,.slice none 0 0,.slice none 0 0,.int .i64 0,.int .i64 0,.int .i64 0,.int .i64 0,.slice none 0 0] 43);have R1:=Blk.new (w.alloc (.cells #[c,L,.slice M heads.length J,.slice Z b.length X,at_,j,G,bit,.slice t d.length E] 43)) [.int .i64 0,.int .i64 0,.slice none 0 0,.slice none 0 0,.int .i64 0,.int .i64 0,.int .i64 0,.int .i64 0,.slice none 0 0] 43;rw[show(w.alloc (.cells #[c,L,.slice M heads.length J,.slice Z b.length X,at_,j,G,bit,.slice t d.length E] 43)).heap.size=S+1 by simp;omega]at R1;have aI:Below S w ((w.alloc (.cells #[c,L,.slice M heads.length J,.slice Z b.length X,at_,j,G,bit,.slice t d.length E] 43)).alloc (.cells #[.int .i64 0,.int .i64 0,.slice none 0 0,.slice none 0 0,.int .i64 0,.int .i64 0,.int .i64 0,.int .i64 0,.slice none 0 0] 43)):=by rw[←hS];go_grown
 obtain⟨w0,aU⟩:=zvJ ((w.alloc (.cells #[c,L,.slice M heads.length J,.slice Z b.length X,at_,j,G,bit,.slice t d.length E] 43)).alloc (.cells #[.int .i64 0,.int .i64 0,.slice none 0 0,.slice none 0 0,.int .i64 0,.int .i64 0,.int .i64 0,.int .i64 0,.slice none 0 0] 43));have bC:w0.heap.size=S+2:=by rw[←aU];simp;omega
 rw[aU]at B1 R1 aI;clear B0;have ad:Cells w0 [(⟨S,3,none⟩,.slice Z b.length X),(⟨S,6,none⟩,G)]:=⟨B1.cell 3,B1.cell 6,zT⟩;have a6:=aK.step (zhK hS aI);obtain⟨HT,bV,bY,Hh⟩:=zh4 hT ai aP hh;clear hT ai aP hh aK;go_enter Tryz.func89,Tryz.ntmps89;go_wp2_with fail;refine zaO 9 2 (.read 1 (.read 2 (.read 4 (.read 5 (.read 6 (.two (.one 0 (.two (.one 3 (.one 7 (.one 8 .done))) (.one 7 (.one 3 (.one 8 .done))))) (.one 7 (.one 0 (.one 3 (.one 8 .done)))))))))) _ _ o0P (Keeps w0 [(⟨S,3,none⟩,.slice Z b.length X),(⟨S,6,none⟩,G)]) zk (zU 9 _).symm zk zk zk zk (Keeps.start ad) (fun Y Q4 F4 hY hF=> ?_);simp only[Plan.map,ltc,ltz,ldc,ldz,zdG,zeF];repeat refine mpR ?_
 have m:=Keeps.start ad;have rb:=a6.step m.1;obtain⟨v,hv⟩:=zvJ w0.drew;rw[hv]at m rb⊢;clear hv;apply share12 (F:=F4) (fun w u=>Keeps w0 [(⟨S,3,none⟩,.slice Z b.length X),(⟨S,6,none⟩,G)] w∧∃a p,u = .slice a (b.length+1) p∧w.ownsRow w0.heap.size 5 1 u (b.length+1) (Bts (b ++ [(y:Int)])))
 case main=>
  intro hk
  repeat' first
   | refine zbV ?_ ?_
   | (refine zsJ 0 [] 5 (by rw[hY];rfl) (by go_simp;first|done|fail) ?_;intro v0 v' e0 k0 hb;have z0:=m.1.size;have m:=m.step hb;have rb:=rb.step hb;(try have k7:=k7.step hb);refine⟨m,?_⟩;simp only[zvF])
   | (refine zsJ 1 [.int .u8 (y:Int)] 5 (by rw[hY];rfl) (by go_simp;first|done|fail) ?_;intro v7 v' e7 k7 hb;have m:=m.step hb;(try have rb:=rb.step hb);(try have k0:=k0.step hb);(try have o3:=yM (B:=0) o3 hb);refine⟨m,?_⟩;simp only[zvF])
   | (refine zhW (.tmp 7) (.tmp 9) 38 5 1 1 _ w0.heap.size zeL v0 0 [] Z b.length X (Bts b) ⟨rfl,.inr ⟨_,0,#[],e0,z0,k0,zF _,zfY _,rfl,rfl⟩⟩ rb by3 (by rw[hY];rfl) by3 by3 (by simp[Bts]) (zvC b) (by simp only[maxLen];omega) om m.1.size ?_;intro v3 a3 p3 v' e3 o3 hg;rw[yE]at e3 o3;have m:Keeps w0 [(⟨S,3,none⟩,.slice Z b.length X),(⟨S,6,none⟩,G)] v':=Keeps.of ad (zqW m.1 hg (fun k e=>by rw[e0]at e;cases e;exact z0));(try have k7:=k7.grown hg (fun e=>by rw[e0]at e;have e:some _=some _:=e;have e:=zI e;rw[e]at k7;exact Blk.ne_nil k7 k0 by1));refine⟨m,?_⟩;simp only[zvF])
   | (refine zhW (.tmp 10) (.tmp 14) 38 5 1 1 _ w0.heap.size zeL v3 b.length (Bts b) _ 1 1 [.int .u8 (y:Int)] o3 (fun _=>⟨_,0,rfl,k7.cells⟩) (by exact e7) (by rw[hY];rfl) by3 by3 rfl by4 (by simp only[maxLen];omega) om m.1.size ?_;intro v8 a8 l v' e8 o8 hg;have m:Keeps w0 [(⟨S,3,none⟩,.slice Z b.length X),(⟨S,6,none⟩,G)] v':=Keeps.of ad (zqW m.1 hg (fun k e=>(zbP o3 e).1));refine⟨m,?_⟩;simp only[zvF];exact zaT (hk v0 v3 v7 v8 _ ⟨m,a8,l,e8,by rw[show Bts (b ++ [(y:Int)])=Bts b ++ [.int .u8 (y:Int)] by simp[Bts]];exact o8⟩))
 intro v0 v3 v7 v8 w3 hR;obtain⟨bg,a8,l,rfl,aH⟩:=hR;refine hF.out _ _ fun K hK=> ?_;clear hF hY m rb;simp only[ldc,ldz];have aN:=bg.1;have M3:=B1.step aN;have R3:=R1.step aN;have aC:=aI.trans (aN.mono om);have l3:=M3.lt;obtain⟨r,ey,bS,ba⟩:=Own.of_owns aH om by2;subst ey;have bi:b.length+1≤l:=by
  obtain⟨_,_,h1,h2,_⟩:=zaV aH;simp at h1;omega
 have bq:=am.step (zhK hS aC);have bG:=al.step (zhK hS aC);clear aH a6 ad B1 R1 aU;rw[bC]at bS;have x3:=M3.cell 3;have f3:=M3.free 3;have M4:=M3.set 3 (.slice (some ⟨r,0,none⟩) (b.length+1) l);have R4:=R3.other S 3 (.slice (some ⟨r,0,none⟩) (b.length+1) l) om;have aO:=aC.setCell (p:=⟨S,3,none⟩) (zF S) (.slice (some ⟨r,0,none⟩) (b.length+1) l);have O4:=ba.other S 3 (.slice (some ⟨r,0,none⟩) (b.length+1) l) om;simp only[sC0,sCs]at M4;obtain⟨w4,bN⟩:=zvJ (w3.setCell ⟨S,3,none⟩ (.slice (some ⟨r,0,none⟩) (b.length+1) l));rw[bN]at M4 R4 aO O4;have H:=M4.set 6 (.int .i64 1);have C:=R4.other S 6 (.int .i64 1) om;have ae:=aO.setCell (p:=⟨S,6,none⟩) (zF S) (.int .i64 1);have O5:=O4.other S 6 (.int .i64 1) om;simp only[sC0,sCs]at H;obtain⟨w5,bw⟩:=zvJ (w4.setCell ⟨S,6,none⟩ (.int .i64 1));rw[bw]at H C ae O5;have cd:=M4.free 6;have ck:=M4.cell 6;have l4:=M4.lt;have l5:=H.lt;clear M3 R3 R4 aC aO ba O4 bq bG M4;have b6:b.length+1<65537:=by omega
 have aa:=zC (CSt.mk H C O5 ae);go_wp2_with fail;refine mok hK ?_;clear hK bg;obtain⟨x0,x1,x2,x3,x4,x5,x6,x7,x8⟩:=H.nine;have f4:=H.free 4;have f5:=(H.set 4 (.int .i64 (at_+1))).free 5;have z5:=(H.set 4 (.int .i64 (at_+1))).cell 5;simp only[sC0,sCs]at z5;clear H C O5 ae
 go_upto_if 23 with fail
 go_cut [] (fun wx=>∃A N:Int,Hid (S12.search ⟨(c:Int),(L:Int),heads,b ++ [(y:Int)],A,N,1,bit,d⟩=T)∧Hid (CSt S w [c,L,.slice M heads.length J,.slice (some ⟨r,0,none⟩) (b.length+1) l,A,N,.int .i64 1,bit,.slice t d.length E] [.int .i64 0,.int .i64 0,.slice none 0 0,.slice none 0 0,.int .i64 0,.int .i64 0,.int .i64 0,.int .i64 0,.slice none 0 0] r (Bts (b ++ [(y:Int)])) wx))
 case first=>
  by_cases h0:0<j
  ·have d0:decide (0<j)=true:=zO h0;have a1:IntKind.i64.wrap (at_+1)=at_+1:=IntWalk.i64_in _ om;have a2:IntKind.i64.wrap (j+1)=j+1:=IntWalk.i64_in _ om;have ar:S12.extend ⟨(c:Int),(L:Int),heads,b ++ [(y:Int)],at_,j,1,bit,d⟩=⟨(c:Int),(L:Int),heads,b ++ [(y:Int)],at_+1,min (j+1) 255,1,bit,d⟩:=by unfold S12.extend;rw[zQ h0]
   have R:=zC (show S12.search ⟨(c:Int),(L:Int),heads,b ++ [(y:Int)],at_+1,min (j+1) 255,1,bit,d⟩=T by rw[←ar];exact HT.out);clear ar;go_wp2_with fail
   go_meet
   case rel=>
    refine⟨_,_,R,zC ⟨?_,(aa.out.r.other S 4 (.int .i64 (at_+1)) om).other S 5 (.int .i64 (min (j+1) 255)) om,(aa.out.o.other S 4 (.int .i64 (at_+1)) om).other S 5 (.int .i64 (min (j+1) 255)) om,(aa.out.b.setCell (p:=⟨S,4,none⟩) (zF S) (.int .i64 (at_+1))).setCell (p:=⟨S,5,none⟩) (zF S) (.int .i64 (min (j+1) 255))⟩⟩;exact(aa.out.m.set 4 (.int .i64 (at_+1))).set 5 (.int .i64 (min (j+1) 255))
  ·have d0:decide (0<j)=false:=zL h0;have ar:S12.extend ⟨(c:Int),(L:Int),heads,b ++ [(y:Int)],at_,j,1,bit,d⟩=⟨(c:Int),(L:Int),heads,b ++ [(y:Int)],at_,j,1,bit,d⟩:=by unfold S12.extend;rw[zG h0]
   have R:=zC (show S12.search ⟨(c:Int),(L:Int),heads,b ++ [(y:Int)],at_,j,1,bit,d⟩=T by rw[←ar];exact HT.out);clear ar;go_wp2_with fail
   go_meet
   case rel=>exact⟨_,_,R,aa⟩
 case rest=>
  clear HT aa x0 x1 x2 x3 x4 x5 x6 x7 x8 f4 f5 z5;obtain⟨A,N,HT,aa⟩:=hcut;have H:=aa.out.m;have C:=aa.out.r;have O5:=aa.out.o;have ae:=aa.out.b;have ax:=al.step (zhK hS ae);have aG:=am.step (zhK hS ae);by_cases bk:b.length+1<L
  ·skip
   have Q:T=⟨(c:Int),(L:Int),heads,b ++ [(y:Int)],A,N,1,bit,d⟩:=by rw[←HT.out];unfold S12.search;rw[zQ (show(((b ++ [(y:Int)]).length:Nat):Int)<(L:Int) by simp;omega)]
   subst Q;have aZ:decide (((b.length+1:Nat):Int)<(L:Int))=true:=zO om;have bd:decide ((b.length:Int)+1<(L:Int))=true:=zO om;obtain⟨m0,m1,m2,m3,m4,m5,m6,m7,m8⟩:=H.nine;have bF:=C.free 0;have bA:=C.free 1;have bt:=C.free 2;have bR:=C.free 3;have bI:=C.free 4;have bu:=C.free 5;have bp:=C.free 6;have bo:=C.free 7;have bP:=C.free 8;obtain⟨bl,bm,bT,bQ,bU,br,bx,bK,bO⟩:=C.nine;have RF:=C.put9 (.int .i64 (c:Int)) (.int .i64 (L:Int)) (.slice M heads.length J) (.slice (some ⟨r,0,none⟩) (b.length+1) l) (.int .i64 (A)) (.int .i64 (N)) (.int .i64 1) (.int .i64 bit) (.slice t d.length E);obtain⟨y0,y1,y2,y3,y4,y5,y6,y7,y8⟩:=RF.nine;have au:=zeN ae (Nat.le_succ S) (.int .i64 (c:Int)) (.int .i64 (L:Int)) (.slice M heads.length J) (.slice (some ⟨r,0,none⟩) (b.length+1) l) (.int .i64 (A)) (.int .i64 (N)) (.int .i64 1) (.int .i64 bit) (.slice t d.length E);obtain⟨Hm,aM⟩:=zh2 (a0.out heads (A) (N) M (some ⟨r,0,none⟩) J l wc rfl ax (O5.rd) aG bi) au;have lr:=C.lt;clear RF au;go_wp2_with (exact bodyPost_ret (v:=MV ⟨(c:Int),(L:Int),heads,b ++ [(y:Int)],A,N,1,bit,d⟩ ⟨M,J,some ⟨r,0,none⟩,l,t,E⟩) (by simp[results,Tryz.results89,go_sem,MV,yX,y0,y1,y2,y3,y4,y5,y6,y7,y8]) rfl ⟨⟨M,J,some ⟨r,0,none⟩,l,t,E⟩,rfl,Hm.out.put9 (fun g o e _=>by have:=aR g o e;omega) (fun g o e _=>by cases e;omega) (fun g o e h=>by have:=aA g o e h;omega) _ _ _ _ _ _ _ _ _,⟨.inl rfl,(fun g o e=>by cases e;omega),.inl rfl⟩,hS▸aM.out⟩)
  ·skip
   have aZ:decide (((b.length+1:Nat):Int)<(L:Int))=false:=zL om;have bd:decide ((b.length:Int)+1<(L:Int))=false:=zL om;obtain⟨i,hi⟩:=zvJ (S12.idx (b ++ [(y:Int)]) (c:Int) (L:Int));rw[hi]at af HI;obtain⟨hd,ai⟩:=zvJ (heads.getD i 0);have cl:0≤hd∧hd≤b.length:=bV.out hd (by rw[←ai,S12.getD_in _ _ af];exact yR af);obtain⟨q,V⟩:∃q:Nat,hd=q:=⟨hd.toNat,by omega⟩;subst V;obtain⟨gh,oh,bv,bc⟩:=ax.at (i:=i) (by rw[zR];exact af);subst bv;have b9:gh<S:=aR gh oh rfl;have aT:wc.cell? ⟨gh,oh+i,none⟩=some (.int .i64 (q:Int)):=by
    rw[bc i (by rw[zR];exact af)];simp only[zaE,List.getElem_map];rw[←ai,S12.getD_in _ _ af]
   have bM:L≤b.length+1:=by omega
   obtain⟨m0,m1,m2,m3,m4,m5,m6,m7,m8⟩:=H.nine;have b0:i<65536:=by omega
   obtain⟨Hi,az,av,aS⟩:=zh4 hi ai af bk;clear bc hi ai bk;go_wp2_with fail;refine(HI.out bM _ _ _ O5.rd).mono ?_;rintro e w8 ⟨rfl,aj⟩;have aY:=ae.trans (aj.mono (Nat.le_of_lt H.lt));have M8:=H.step aj;have R8:=C.step aj;have O8:=O5.step aj;have b2:=ax.step aj;have bH:=aG.step aj;have b1:=(aj.cell (p:=⟨gh,oh+i,none⟩) (zE aT)).trans aT;clear H C O5 ax aG m0 m1 m2 m3 m4 m5 m6 m7 m8 aT ae aZ bd;obtain⟨m0,m1,m2,m3,m4,m5,m6,m7,m8⟩:=M8.nine;have ag:=zC (CSt.mk M8 R8 O8 aY);obtain⟨O,hO⟩:∃O,decide (N=0∧0<q)=O:=⟨_,rfl⟩;clear M8 R8 O8 aY bH
   go_upto_region 10 with fail
   go_cut [56] (fun s wx=>s = .bool O∧w8=wx)
   case first=>
    by_cases hn:N=0
    ·have e1:(N==0)=true:=by simp[hn]
     have e2:decide (0<q)=O:=by rw[←hO,decide_eq_decide];omega
     clear hn;go_wp2_with fail
     go_meet
     case rel=>exact⟨rfl,rfl⟩
    ·have e1:(N==0)=false:=by simp[hn]
     obtain rfl:O=false:=by rw[←hO];simp[hn]
     clear hn;go_wp2_with fail
     go_meet
     case rel=>exact⟨rfl,rfl⟩
   case rest=>
    obtain⟨rfl,rfl⟩:=hcut
    go_upto_if 56 with fail
    go_cut [] (fun wx=>∃A2 N2:Int,Hid (T=⟨(c:Int),(L:Int),heads.set i ((b.length:Int)+1),b ++ [(y:Int)],A2,N2,1,bit,d⟩)∧Hid (CSt S w [c,L,.slice (some ⟨gh,oh,none⟩) heads.length J,.slice (some ⟨r,0,none⟩) (b.length+1) l,A2,N2,.int .i64 1,bit,.slice t d.length E] [.int .i64 0,.int .i64 0,.slice none 0 0,.slice none 0 0,.int .i64 0,.int .i64 0,.int .i64 0,.int .i64 0,.slice none 0 0] r (Bts (b ++ [(y:Int)])) wx))
    case first=>
     by_cases V:N=0∧0<q
     ·obtain rfl:O=true:=by rw[←hO];simpa using V
      go_wp2_with fail;refine(HR.out q om _ _ _ _ ag.out.o.rd).mono ?_;rintro e w9 ⟨rfl,aw⟩;have P:=ag.out.m.step aw;have U:=zC (CSt.mk P (ag.out.r.step aw) (ag.out.o.step aw) (ag.out.b.trans (aw.mono (Nat.le_of_lt ag.out.m.lt))));clear m0 m1 m2 m3 m4 m5 m6 m7 m8;obtain⟨m0,m1,m2,m3,m4,m5,m6,m7,m8⟩:=P.nine;obtain⟨rp,ak⟩:=zvJ (S12.rep (b ++ [(y:Int)]) q);rw[ak];by_cases hk:L≤rp
      ·have Q:T=⟨(c:Int),(L:Int),heads.set i ((b.length:Int)+1),b ++ [(y:Int)],(q:Int),(rp:Int),1,bit,d⟩:=by
        rw[←HT.out,S12.search_yes _ i q (by simp only[zaG,List.length_singleton];have:=aS.out;omega) Hi.out az.out ⟨V.1,V.2,by simp only;rw[ak];omega⟩];simp[ak]
       have R:=zC Q;have dk:decide ((L:Int)≤(rp:Int))=true:=zO om;have f4:=P.free 4;have f5:=(P.set 4 (.int .i64 (q:Int))).free 5;have z5:=(P.set 4 (.int .i64 (q:Int))).cell 5;simp only[sC0,sCs]at z5;clear Q P V ak;go_wp2_with fail
       go_meet
       case rel=>
        refine⟨_,_,R,zC ⟨?_,(U.out.r.other S 4 (.int .i64 (q:Int)) om).other S 5 (.int .i64 (rp:Int)) om,(U.out.o.other S 4 (.int .i64 (q:Int)) om).other S 5 (.int .i64 (rp:Int)) om,(U.out.b.setCell (p:=⟨S,4,none⟩) (zF S) (.int .i64 (q:Int))).setCell (p:=⟨S,5,none⟩) (zF S) (.int .i64 (rp:Int))⟩⟩;exact(U.out.m.set 4 (.int .i64 (q:Int))).set 5 (.int .i64 (rp:Int))
      ·have Q:T=⟨(c:Int),(L:Int),heads.set i ((b.length:Int)+1),b ++ [(y:Int)],A,N,1,bit,d⟩:=by
        rw[←HT.out,S12.search_no _ i q (by simp only[zaG,List.length_singleton];have:=aS.out;omega) Hi.out az.out (fun h=>by have h2:=h.2.2;simp only at h2;rw[ak]at h2;omega)];simp
       have R:=zC Q;have dk:decide ((L:Int)≤(rp:Int))=false:=zL om;clear Q P V ak;go_wp2_with fail
       go_meet
       case rel=>exact⟨_,_,R,U⟩
     ·obtain rfl:O=false:=by rw[←hO];simpa using V
      have Q:T=⟨(c:Int),(L:Int),heads.set i ((b.length:Int)+1),b ++ [(y:Int)],A,N,1,bit,d⟩:=by
       rw[←HT.out,S12.search_no _ i q (by simp only[zaG,List.length_singleton];have:=aS.out;omega) Hi.out az.out (fun h=>V ⟨h.1,h.2.1⟩)];simp
      have R:=zC Q;clear Q V;go_wp2_with fail
      go_meet
      case rel=>exact⟨_,_,R,ag⟩
    case rest=>
     clear ag HT m0 m1 m2 m3 m4 m5 m6 m7 m8;obtain⟨A2,N2,R,U⟩:=hcut;obtain⟨m0,m1,m2,m3,m4,m5,m6,m7,m8⟩:=U.out.m.nine;have P:=U.out.m;have R9:=U.out.r;have O9:=U.out.o;have ay:=U.out.b;have be:=al.step (zhK hS ay);have bf:=am.step (zhK hS ay);have Q:=R.out;subst Q;have bE:=zC (be.step ((zJ wc.heap.size wc).alloc (zF _) (Obj.cells #[] 3)));have lz:=P.lt;have lr:=R9.lt;have lo:=O9.lt;have f2:=P.free 2;obtain⟨HB,HM,HR,HO⟩:=zh4 ay P R9 O9;have bL:=zC bf;have b3:1≤(zaE heads).length:=by rw[zR];omega
     clear ay P R9 O9 bf be;go_wp2_with (first
      | (at_builtin
         refine yQ _ _ 41 3 1 8 _ wc.heap.size zqZ rfl rfl _ 0 [] rfl (World.ownsRow_made wc #[] 0 (zF _) by2 rfl) (some ⟨gh,oh,none⟩) heads.length J (zaE heads) rfl (by simp[zaE]) bE.out (zgH heads) by5 om by1 ?_;intro a2 D an aL a5;have ao:Below wc wc an:=Below.grown zo a5 by1 (fun k e=>by cases e;exact zF _);simp only[yE,lna]at aL⊢;obtain⟨f,rfl,b8,aB⟩:=Own.of_owns aL om by2;clear aL a5;have aq:=HM.out.step ao;have a9:=HR.out.step ao;have a4:=HO.out.step ao;have bj:=bL.out.step ao;have bb:=HB.out.trans (ao.mono (Nat.le_of_lt lz));have cj:¬f=S:=by omega
         have b5:¬S=f:=by omega
         have aD:=(aq.set 2 (.slice (some ⟨f,0,none⟩) heads.length D)).other f i (.int .i64 ((b.length:Int)+1)) om;have I:=(a9.other S 2 (.slice (some ⟨f,0,none⟩) heads.length D) om).other f i (.int .i64 ((b.length:Int)+1)) om;have aV:=(a4.other S 2 (.slice (some ⟨f,0,none⟩) heads.length D) om).other f i (.int .i64 ((b.length:Int)+1)) om;have aE:=(aB.other S 2 (.slice (some ⟨f,0,none⟩) heads.length D) om).set (i:=i) (by rw[zR];exact av.out) (.int .i64 ((b.length:Int)+1));have aF:=(bb.setCell (p:=⟨S,2,none⟩) (zF S) (.slice (some ⟨f,0,none⟩) heads.length D)).setCell (p:=⟨f,i,none⟩) (show S≤f by omega) (.int .i64 ((b.length:Int)+1));have aQ:Rd ((an.setCell ⟨S,2,none⟩ (.slice (some ⟨f,0,none⟩) heads.length D)).setCell ⟨f,i,none⟩ (.int .i64 ((b.length:Int)+1))) t (Cts d):=bj.below (B:=S) (((zJ S an).setCell (p:=⟨S,2,none⟩) (zF S) (.slice (some ⟨f,0,none⟩) heads.length D)).setCell (p:=⟨f,i,none⟩) (show S≤f by omega) (.int .i64 ((b.length:Int)+1))) (fun g o e h=>aA g o e h);simp only[sC0,sCs]at aD;obtain⟨x0,x1,x2,x3,x4,x5,x6,x7,x8⟩:=(aq.set 2 (.slice (some ⟨f,0,none⟩) heads.length D)).nine;have xh:(an.setCell ⟨S,2,none⟩ (.slice (some ⟨f,0,none⟩) heads.length D)).cell? ⟨f,i,none⟩=some (.int .i64 (q:Int)):=by
          rw[(aB.other S 2 (.slice (some ⟨f,0,none⟩) heads.length D) om).cell (by rw[zR];exact av.out)];rw[←az.out,S12.getD_in _ _ av.out];simp[zaE,av.out]
         have fh:=(aB.other S 2 (.slice (some ⟨f,0,none⟩) heads.length D) om).free i;have bZ:=aq.free 2;have y2:=aq.cell 2;obtain⟨bs,bJ⟩:=zvJ ((an.setCell ⟨S,2,none⟩ (.slice (some ⟨f,0,none⟩) heads.length D)).setCell ⟨f,i,none⟩ (.int .i64 ((b.length:Int)+1)));rw[bJ]at aD I aV aE aF aQ;have eH:(zaE heads).set i (.int .i64 ((b.length:Int)+1))=zaE (heads.set i ((b.length:Int)+1)):=by simp[zaE,List.map_set]
         rw[eH]at aE;obtain⟨n0,n1,n2,n3,n4,n5,n6,n7,n8⟩:=aD.nine;have bF:=I.free 0;have bA:=I.free 1;have bt:=I.free 2;have bR:=I.free 3;have bI:=I.free 4;have bu:=I.free 5;have bp:=I.free 6;have bo:=I.free 7;have bP:=I.free 8;obtain⟨bl,bm,bT,bQ,bU,br,bx,bK,bO⟩:=I.nine;have RF:=I.put9 (.int .i64 (c:Int)) (.int .i64 (L:Int)) (.slice (some ⟨f,0,none⟩) heads.length D) (.slice (some ⟨r,0,none⟩) (b.length+1) l) (.int .i64 (A2)) (.int .i64 (N2)) (.int .i64 1) (.int .i64 bit) (.slice t d.length E);obtain⟨y0,y1,y2,y3,y4,y5,y6,y7,y8⟩:=RF.nine;have au:=zeN aF (Nat.le_succ S) (.int .i64 (c:Int)) (.int .i64 (L:Int)) (.slice (some ⟨f,0,none⟩) heads.length D) (.slice (some ⟨r,0,none⟩) (b.length+1) l) (.int .i64 (A2)) (.int .i64 (N2)) (.int .i64 1) (.int .i64 bit) (.slice t d.length E);obtain⟨Hm,aM⟩:=zh2 (a0.out (heads.set i ((b.length:Int)+1)) (A2) (N2) (some ⟨f,0,none⟩) (some ⟨r,0,none⟩) D l bs by1 aE.rd (aV.rd) aQ bi) au;have bX:=I.lt;clear RF au aD I aV aE aF aQ aq a9 a4 bj bb aB eH)
      | (exact bodyPost_ret (v:=MV ⟨(c:Int),(L:Int),heads.set i ((b.length:Int)+1),b ++ [(y:Int)],A2,N2,1,bit,d⟩ ⟨some ⟨f,0,none⟩,D,some ⟨r,0,none⟩,l,t,E⟩) (by simp[results,Tryz.results89,go_sem,MV,yX,y0,y1,y2,y3,y4,y5,y6,y7,y8]) rfl ⟨⟨some ⟨f,0,none⟩,D,some ⟨r,0,none⟩,l,t,E⟩,rfl,Hm.out.put9 (fun g o e _=>by cases e;omega) (fun g o e _=>by cases e;omega) (fun g o e h=>by have:=aA g o e h;omega) _ _ _ _ _ _ _ _ _,⟨.inr (fun g o e=>by cases e;omega),(fun g o e=>by cases e;omega),.inl rfl⟩,hS▸aM.out⟩))
