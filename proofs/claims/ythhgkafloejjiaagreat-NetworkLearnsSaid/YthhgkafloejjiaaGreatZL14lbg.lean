/- A part of the proof of L14l. No condition. -/
import Derived.Test.YthhgkafloejjiaaGreatZL14lam
import Derived.Test.YthhgkafloejjiaaGreatZL14lat
import Derived.Test.YthhgkafloejjiaaGreatZL14lbc
set_option linter.all false
set_option maxRecDepth 100000
set_option maxHeartbeats 4000000
namespace Go.Proofs.YthhgkafloejjiaaGreat
open Go.RowKit
def Own(w:World)(g:Nat)(t:TypeId)(vals:List Value):Prop:=∃rest,Blk w g (vals++rest) t
theorem Own.lt{w:World}{g:Nat}{t:TypeId}{vals:List Value}(h:Own w g t vals):g<w.heap.size:=by obtain⟨r,h⟩:=h;exact h.lt
theorem Own.step{w w':World}{g:Nat}{t:TypeId}{vals:List Value}(h:Own w g t vals)(a:Below w w w'):Own w' g t vals:=by obtain⟨r,h⟩:=h;exact⟨r,h.step a⟩
theorem Own.cell{w:World}{g:Nat}{t:TypeId}{vals:List Value}(h:Own w g t vals){i:Nat}(a:i<vals.length):w.cell? ⟨g,i,none⟩=vals[i]? :=by
 obtain⟨r,h⟩:=h;rw[h.cell,zbH a]
theorem Own.free{w:World}{g:Nat}{t:TypeId}{vals:List Value}(h:Own w g t vals)(i:Nat):w.frozen? ⟨g,i,none⟩=false:=by obtain⟨r,h⟩:=h;exact h.free i
theorem Own.rd{w:World}{g:Nat}{t:TypeId}{vals:List Value}(h:Own w g t vals):Rd w (some ⟨g,0,none⟩) vals:=fun _=>⟨g,0,rfl,fun j v a=>by
 rw[yE,h.cell (List.getElem?_eq_some_iff.1 a).1];exact a⟩
theorem Own.set{w:World}{g:Nat}{t:TypeId}{vals:List Value}(h:Own w g t vals){i:Nat}(a:i<vals.length)(v:Value):Own (w.setCell ⟨g,i,none⟩ v) g t (vals.set i v):=by
 obtain⟨r,h⟩:=h;refine⟨r,?_⟩;rw[←List.set_append_left _ _ a];exact h.set i v
theorem Own.other{w:World}{g:Nat}{t:TypeId}{vals:List Value}(h:Own w g t vals)(c i:Nat)(v:Value)(a:¬g=c):Own (w.setCell ⟨c,i,none⟩ v) g t vals:=by obtain⟨r,h⟩:=h;exact⟨r,h.other c i v a⟩
theorem Blk.type{w:World}{b:Nat}{c d:List Value}{t t':TypeId}(h:Blk w b c t)(a:Blk w b d t'):t=t':=by
 unfold Blk at h a;rw[h]at a;simp at a;exact a.2
theorem Own.ne{w:World}{g c:Nat}{t t':TypeId}{vals b:List Value}(h:Own w g t vals)(d:Blk w c b t')(a:¬t=t'):¬g=c:=fun e=>by
 obtain⟨r,h⟩:=h;subst e;exact a (h.type d)
theorem zfD{w:World}{c:Nat}{e t:TypeId}{n cap b i:Nat}{a:Option Addr}{xs d:List Value}{v:Value}(h:w.ownsRow c e 1 (.slice a n cap) n xs)(g:Blk w b d t)(f:¬e=t):(w.setCell ⟨b,i,none⟩ v).ownsRow c e 1 (.slice a n cap) n xs:=
 h.kept (yZ w b i v) (.inr (zaS h g f))
theorem zrK:∀(l:List (Int×Int)) (k:Nat) (a b:Int),Cts (l.set k (a,b))=((Cts l).set (k*2) (.int .i64 a)).set (k*2+1) (.int .i64 b)
 | [],k,a,b=>by simp[Cts]
 | c::l,0,a,b=>by simp[zlY]
 | c::l,k+1,a,b=>by
   rw[List.set_cons_succ,zlY,zlY,zrK l k a b,show(k+1)*2=k*2+1+1 by omega];rfl
structure St(B S gh gc:Nat)(m:S12.M)(p:Pl)(w:World):Prop where
 blk:Blk w S (yX m p) 240
 ph:p.ah=some ⟨gh,0,none⟩
 pc:p.ac=some ⟨gc,0,none⟩
 hs:B≤S
 hh:B≤gh
 hc:B≤gc
 oh:Own w gh 3 (zaE m.heads)
 oc:Own w gc 143 (Cts m.ctrs)
 ob:w.ownsRow B 5 1 (.slice p.ab m.bytes.length p.cb) m.bytes.length (Bts m.bytes)
theorem St.step{B S c b:Nat}{m:S12.M}{p:Pl}{w w':World}(h:St B S c b m p w)(a:Below w w w'):St B S c b m p w':=
 ⟨h.blk.step a,h.ph,h.pc,h.hs,h.hh,h.hc,h.oh.step a,h.oc.step a,yM (B:=0) h.ob a⟩
theorem St.put{B S b a:Nat}{m m':S12.M}{p:Pl}{w:World}(h:St B S b a m p w)(i:Nat)(v:Value)(e:(yX m p).set i v=yX m' p)(d:m'.heads=m.heads)(c:m'.ctrs=m.ctrs)(f:m'.bytes=m.bytes):St B S b a m' p (w.setCell ⟨S,i,none⟩ v):=
 ⟨e▸h.blk.set i v,h.ph,h.pc,h.hs,h.hh,h.hc,by rw[d];exact h.oh.other S i v (h.oh.ne h.blk by2),by rw[c];exact h.oc.other S i v (h.oc.ne h.blk by2),by rw[f];exact zfD h.ob h.blk by2⟩
theorem St.putC{B S f c:Nat}{m:S12.M}{p:Pl}{w:World}(h:St B S f c m p w)(k:Nat)(j:k<m.ctrs.length)(a b:Int):St B S f c {m with ctrs:=m.ctrs.set k (a,b)} p ((w.setCell ⟨c,k*2,none⟩ (.int .i64 a)).setCell ⟨c,k*2+1,none⟩ (.int .i64 b)):=by
 have i:¬S=c:=fun e=>(h.oc.ne h.blk by2) e.symm;obtain⟨r,d⟩:=h.oc;have g:¬f=c:=h.oh.ne d by2;refine⟨?_,h.ph,h.pc,h.hs,h.hh,h.hc,(h.oh.other c _ _ g).other c _ _ g,?_,?_⟩
 ·have:=(h.blk.other c (k*2) (.int .i64 a) i).other c (k*2+1) (.int .i64 b) i;unfold yX at this⊢;simpa using this
 ·rw[show({m with ctrs:=m.ctrs.set k (a,b)}:S12.M).ctrs=m.ctrs.set k (a,b)from rfl,zrK];exact(h.oc.set (by rw[yT];omega) _).set (by rw[yH,yT];omega) _
 ·exact zfD (zfD h.ob d by2) (d.set _ _) by2
theorem St.putH{B S b c:Nat}{m:S12.M}{p:Pl}{w:World}(h:St B S b c m p w)(k:Nat)(i:k<m.heads.length)(a:Int):St B S b c {m with heads:=m.heads.set k a} p (w.setCell ⟨b,k,none⟩ (.int .i64 a)):=by
 have g:¬S=b:=fun e=>(h.oh.ne h.blk by2) e.symm;obtain⟨r,d⟩:=h.oh;have f:¬c=b:=h.oc.ne d by2;refine⟨?_,h.ph,h.pc,h.hs,h.hh,h.hc,?_,h.oc.other b _ _ f,zfD h.ob d by2⟩
 ·have:=h.blk.other b k (.int .i64 a) g;unfold yX at this⊢;simpa using this
 ·rw[show zaE ({m with heads:=m.heads.set k a}:S12.M).heads=(zaE m.heads).set k (.int .i64 a) by simp[zaE,List.map_set]];exact h.oh.set (by rw[zR];omega) _
def KeepF(w w':World):Prop:=∀F cs,Blk w F cs 1→Blk w' F cs 1
theorem KeepF.refl(w:World):KeepF w w:=fun _ _ h=>h
theorem KeepF.trans{a b c:World}(f:KeepF a b)(e:KeepF b c):KeepF a c:=fun F d h=>e F d (f F d h)
theorem KeepF.of{w w':World}(a:Below w w w'):KeepF w w':=fun _ _ h=>h.step a
theorem KeepF.set{w:World}{b i:Nat}{d:List Value}{t:TypeId}{v:Value}(h:Blk w b d t)(c:¬1=t):KeepF w (w.setCell ⟨b,i,none⟩ v):=fun F f a=>a.other b i v (fun e=>by subst e;exact c (a.type h))
theorem KeepF.setO{w:World}{b i:Nat}{c:List Value}{t:TypeId}{v:Value}(h:Own w b t c)(a:¬1=t):KeepF w (w.setCell ⟨b,i,none⟩ v):=by obtain⟨r,h⟩:=h;exact KeepF.set h a
end Go.Proofs.YthhgkafloejjiaaGreat
namespace Go.Proofs.YthhgkafloejjiaaGreat
open Go.RowKit
theorem yW(B:Nat)(w:World):Below B w w.drew:=(zJ B w).drew
theorem end12_any(S:Nat)(b g d c l j i f k:Value)(w:World)(a:Blk w S [b,g,d,c,l,j,i,f,k] 240) :
 Calls Tryz.prog 218 #[.pointer (some ⟨S,0,none⟩)] w fun e h=>e = .returned (.tuple #[])∧h=(w.setCell ⟨S,4,none⟩ (.int .i64 0)).setCell ⟨S,5,none⟩ (.int .i64 0):=by
 obtain⟨p,u,s,o,r,v,q,m,t⟩:=a.nine;have n:=a.free 4;have x:=a.free 5;go_enter Tryz.func218,Tryz.ntmps218;go_wp2_with fail;go_returns;exact⟨rfl,rfl⟩
theorem extend12_any(B S d a:Nat)(m:S12.M)(p:Pl)(w:World)(h:St B S d a m p w)(N:0≤m.len∧m.len≤255)(H:0≤m.at_∧m.at_≤1000000) :
 Calls Tryz.prog 210 #[.pointer (some ⟨S,0,none⟩)] w fun e i=>e = .returned (.tuple #[])∧St B S d a (S12.extend m) p i∧Below B w i∧KeepF w i:=by
 have l:=h.hs;obtain⟨z,L,E,x,n,r,C,s,F⟩:=h.blk.nine;have v:=h.blk.free 4;have Q:=h.blk.free 5
 have c:∀W,St B S d a m p W→St B S d a {m with at_:=m.at_+1,len:=min (m.len+1) 255} p ((W.setCell ⟨S,4,none⟩ (.int .i64 (m.at_+1))).setCell ⟨S,5,none⟩ (.int .i64 (min (m.len+1) 255))):=fun W h=>
  (h.put (m':={m with at_:=m.at_+1}) 4 _ rfl rfl rfl rfl).put (m':={m with at_:=m.at_+1,len:=min (m.len+1) 255}) 5 _ rfl rfl rfl rfl
 have f:Below w w w.drew:=yW _ w;have P:=h.blk.lt;unfold S12.extend;obtain⟨g,c⟩:=zh2 h c;clear h;obtain⟨O,G,heads,y,at_,len,t,A,D⟩:=m;simp only at *;go_enter Tryz.func210,Tryz.ntmps210;by_cases b:0<len
 ·have o:decide (0<len)=true:=zO b;rw[zQ b];have q:=zC (c.out _ (g.out.step f));have u:IntKind.i64.wrap (at_+1)=at_+1:=IntWalk.i64_in _ om;have I:IntKind.i64.wrap (len+1)=len+1:=IntWalk.i64_in _ om;clear c;go_wp2_with fail;refine zbF 18 19 4 [(.p,[true,true,true,true,true,true]),(.r,[false,false,false,false,false,false,true]),(.p,[false,false,false,false,false,false,false,true,true,true,true,true]),(.r,[false,false,false,false,false,false,false,false,false,false,false,false,true]),(.p,[false,false,false,false,false,false,false,false,false,false,false,false,false,true,true,true,true,true]),(.l,[false,false,false,false,false,false,false,false,false,false,false,false,false,false,false,false,false,false,true])] _ _ (zdM [(⟨S,4,none⟩,at_),(⟨S,5,none⟩,len)]) zk (zU 19 _).symm zk zk zk zk (⟨n,r,zT⟩) (fun Y J M hY k=> ?_);simp only[zeJ,lfc,lfn,ltc,ltz,ldc,ldz,zdY,zcV,zfO,lmc,lmn,lca,lna,lan];repeat first|refine muP ?_|refine muR ?_
  refine muL ?_;refine zcG (k.out _ _ (fun K j=> ?_));clear k hY;go_wp2_with fail;refine mok j ?_;clear j;go_wp2_with fail;go_returns;exact⟨rfl,q.out,((yW B w).setCell (p:=⟨S,4,none⟩) l _).setCell (p:=⟨S,5,none⟩) l _,(KeepF.of f).trans ((KeepF.set (g.out.step f).blk by2).trans (KeepF.set ((g.out.step f).blk.set 4 _) by2))⟩
 ·have o:decide (0<len)=false:=zL b;rw[zG b];go_wp2_with fail;go_returns;exact⟨rfl,g.out,zJ _ _,KeepF.refl _⟩
end Go.Proofs.YthhgkafloejjiaaGreat
namespace Go.Proofs.YthhgkafloejjiaaGreat
open Go.RowKit
theorem S12.upd_ok{p n r:Int}(h:S08.check p n 255=0)(c:r=0∨r=1)(w:World) :
 Calls Tryz.prog 167 #[.agg #[p,n],r,.int .i64 255] w fun e b=>e = .returned (.tuple #[.agg #[(S08.step p n r),.int .i64 (min (n+1) 255)],.int .i64 0])∧Below w w b:=by
 have a:=znR p n r 255 w;rw[S08.updateV_ok (by unfold S08.updateE;rw[zG om,zG om])]at a;exact a
theorem zqS(B S gh a:Nat)(m:S12.M)(p:Pl)(b:Int)(w:World)(h:St B S gh a m p w)(hc:m.ctrs.length=16)(Z:∀c∈m.ctrs,S08.check c.1 c.2 255=0)(hl:0≤m.len) :
 Calls Tryz.prog 209 #[.pointer (some ⟨S,0,none⟩),b] w fun e w'=>e = .returned (.int .i64 0)∧St B S gh a (S12.learn m b) p w'∧Below B w w':=by
 have O:=h.hs;have R:=h.hc;have ac:B≤w.heap.size:=yD O (Nat.le_of_lt h.blk.lt);obtain⟨x0,x1,x2,x3,x4,x5,x6,x7,x8⟩:=h.blk.nine;have lS:=h.blk.lt;have q:=h.oc.lt;by_cases A:m.len=0
 ·have T:S12.learn m b=m:=by unfold S12.learn;rw[zQ A]
  rw[T];rw[A]at x5;have HS:=zC h;clear h Z A T;go_enter Tryz.func209,Tryz.ntmps209;go_wp2_with fail;go_returns;exact⟨rfl,HS.out,zJ _ _⟩
 obtain⟨k,hk⟩:∃k:Nat,min m.len.toNat 15=k:=⟨_,rfl⟩;obtain⟨i,E⟩:=zvJ (m.ctrs.getD k (0,0));have o:k<m.ctrs.length:=by omega
 have ad:S08.check i.1 i.2 255=0:=Z i (by rw[←E,S12.getD_in _ _ o];exact yR o);have hU:=fun r (hr:r=0∨r=1)=>S12.upd_ok ad hr;have I:w.cell? ⟨a,k*2,none⟩=some (.int .i64 i.1):=by
  rw[h.oc.cell (by rw[yT];omega),(zeD o).1,←E,S12.getD_in _ _ o]
 have L:w.cell? ⟨a,k*2+1,none⟩=some (.int .i64 i.2):=by
  rw[h.oc.cell (by rw[yT];omega),(zeD o).2,←E,S12.getD_in _ _ o]
 have y:S12.learn m b=if b=m.bit then {m with ctrs:=m.ctrs.set k (S08.step i.1 i.2 1,min (i.2+1) 255)}else {m with ctrs:=m.ctrs.set k (S08.step i.1 i.2 0,min (i.2+1) 255),at_:=0,len:=0}:=by
  unfold S12.learn;rw[zG A,hk,E]
 have x:=zC fun W (hb:Below w w W)=>zlG S m p W (h.blk.step hb) hc om a 0 h.pc;rw[hk]at x;simp only[yE]at x;obtain⟨v,ag⟩:=zh2 hU h;have T:(m.len==0)=false:=by simp[A]
 have ae:=zC o;clear hU Z ad E hk A hl h hc o;obtain⟨p0,p1⟩:=i;simp only at I L y v;obtain⟨f,af⟩:=zvJ (min (p1+1) 255);rw[af]at y v;clear af;by_cases z:b=m.bit
 all_goals
  first|rw[zQ z]at y|rw[zG z]at y
  rw[y];clear y
 ·have eb:(b==m.bit)=true:=by simp[z]
  have P:=zC (v.out 1 (.inr rfl));obtain⟨d,Q⟩:=zvJ (S08.step p0 p1 1);rw[Q]at P⊢;clear v Q z;go_enter Tryz.func209,Tryz.ntmps209;go_wp2_with fail;refine(x.out _ (zJ _ _)).mono ?_;rintro e w1 ⟨rfl,u⟩;have V:=(u.cell (p:=⟨a,k*2,none⟩) q).trans I;have X:=(u.cell (p:=⟨a,k*2+1,none⟩) q).trans L;go_wp2_with fail;refine mnb u (P.out _) fun g ah aa=> ?_;go_wp2_with fail;obtain⟨s,C,_,ab⟩:=al1 g [Value.int IntKind.i64 d,Value.int IntKind.i64 f] 143;have N:Blk s g [d,f] 143:=by rw[←C];exact Blk.new g _ _
  have D:=zA aa ab;have j:Cells s [(⟨g,0,none⟩,d),(⟨g,1,none⟩,f)]:=⟨N.cell 0,N.cell 1,zT⟩;rw[C];refine zvL 3 2 [(U,0,1),(U,2,1),(zvE,1,1)] (Keeps s [(⟨g,0,none⟩,d),(⟨g,1,none⟩,f)]) (Keeps.start j) fun Y Q4 F4 hY H=> ?_;repeat refine mrh ?_
  refine mcl ?_;refine(x.out _ (zA D (Keeps.start j).1)).mono ?_;rintro e J ⟨rfl,G⟩;refine⟨_,rfl,(Keeps.start j).step G,?_⟩;simp only[zvF];refine mdn H fun K F=> ?_;clear H hY;have l:Below w w J:=zA D (zA (Keeps.start j).1 G);have n:=ag.out.step l;have g1:=n.oc.free (k*2);have g2:=n.oc.free (k*2+1);have y5:=(l.cell (p:=⟨a,k*2,none⟩) q).trans I;have y6:=(l.cell (p:=⟨a,k*2+1,none⟩) q).trans L;have t:=zC (n.putC k ae.out d f);have M:Below B w ((J.setCell ⟨a,k*2,none⟩ (.int .i64 d)).setCell ⟨a,k*2+1,none⟩ (.int .i64 f)):=((l.mono ac).setCell (p:=⟨a,k*2,none⟩) R _).setCell (p:=⟨a,k*2+1,none⟩) R _;clear V X j n;go_wp2_with fail;refine mok F ?_;clear F;go_wp2_with fail
  first
   | (go_returns;exact⟨rfl,t.out,M⟩)
   | (refine(end12_any S _ _ _ _ _ _ _ _ _ _ t.out.blk).mono ?_;rintro e w6 ⟨rfl,rfl⟩;go_wp2_with fail;go_returns;exact⟨rfl,(t.out.put (m':={m with ctrs:=m.ctrs.set k (d,f),at_:=0}) 4 _ rfl rfl rfl rfl).put (m':={m with ctrs:=m.ctrs.set k (d,f),at_:=0,len:=0}) 5 _ rfl rfl rfl rfl,(M.setCell (p:=⟨S,4,none⟩) O _).setCell (p:=⟨S,5,none⟩) O _⟩)
 ·have eb:(b==m.bit)=false:=by simp[z]
  have P:=zC (v.out 0 (.inl rfl));obtain⟨d,Q⟩:=zvJ (S08.step p0 p1 0);rw[Q]at P⊢;clear v Q z;go_enter Tryz.func209,Tryz.ntmps209;go_wp2_with fail;refine(x.out _ (zJ _ _)).mono ?_;rintro e w1 ⟨rfl,u⟩;have V:=(u.cell (p:=⟨a,k*2,none⟩) q).trans I;have X:=(u.cell (p:=⟨a,k*2+1,none⟩) q).trans L;go_wp2_with fail;refine mnb u (P.out _) fun g ah aa=> ?_;go_wp2_with fail;obtain⟨s,C,_,ab⟩:=al1 g [Value.int IntKind.i64 d,Value.int IntKind.i64 f] 143;have N:Blk s g [d,f] 143:=by rw[←C];exact Blk.new g _ _
  have D:=zA aa ab;have j:Cells s [(⟨g,0,none⟩,d),(⟨g,1,none⟩,f)]:=⟨N.cell 0,N.cell 1,zT⟩;rw[C];refine zvL 3 2 [(U,0,1),(U,2,1),(zvE,1,1)] (Keeps s [(⟨g,0,none⟩,d),(⟨g,1,none⟩,f)]) (Keeps.start j) fun Y Q4 F4 hY H=> ?_;repeat refine mrh ?_
  refine mcl ?_;refine(x.out _ (zA D (Keeps.start j).1)).mono ?_;rintro e J ⟨rfl,G⟩;refine⟨_,rfl,(Keeps.start j).step G,?_⟩;simp only[zvF];refine mdn H fun K F=> ?_;clear H hY;have l:Below w w J:=zA D (zA (Keeps.start j).1 G);have n:=ag.out.step l;have g1:=n.oc.free (k*2);have g2:=n.oc.free (k*2+1);have y5:=(l.cell (p:=⟨a,k*2,none⟩) q).trans I;have y6:=(l.cell (p:=⟨a,k*2+1,none⟩) q).trans L;have t:=zC (n.putC k ae.out d f);have M:Below B w ((J.setCell ⟨a,k*2,none⟩ (.int .i64 d)).setCell ⟨a,k*2+1,none⟩ (.int .i64 f)):=((l.mono ac).setCell (p:=⟨a,k*2,none⟩) R _).setCell (p:=⟨a,k*2+1,none⟩) R _;clear V X j n;go_wp2_with fail;refine mok F ?_;clear F;go_wp2_with fail
  first
   | (go_returns;exact⟨rfl,t.out,M⟩)
   | (refine(end12_any S _ _ _ _ _ _ _ _ _ _ t.out.blk).mono ?_;rintro e w6 ⟨rfl,rfl⟩;go_wp2_with fail;go_returns;exact⟨rfl,(t.out.put (m':={m with ctrs:=m.ctrs.set k (d,f),at_:=0}) 4 _ rfl rfl rfl rfl).put (m':={m with ctrs:=m.ctrs.set k (d,f),at_:=0,len:=0}) 5 _ rfl rfl rfl rfl,(M.setCell (p:=⟨S,4,none⟩) O _).setCell (p:=⟨S,5,none⟩) O _⟩)
end Go.Proofs.YthhgkafloejjiaaGreat
namespace Go.Proofs.YthhgkafloejjiaaGreat
open Go.RowKit
theorem foldl_take(f:Nat→Int→Nat)(z:Nat)(ys:List Int)(k:Nat)(a:k<ys.length):(ys.take (k+1)).foldl f z=f ((ys.take k).foldl f z) (ys.getD k 0):=by
 rw[List.take_succ_eq_append_getElem a,List.foldl_append,S12.getD_in _ _ a];rfl
theorem S12.hash_take{ys:List Int}{k:Nat}(a:k<ys.length):S12.hash (ys.take (k+1))=(S12.hash (ys.take k)+(ys.getD k 0).toNat+1)*S12.factor%4294967296:=by
 unfold S12.hash;exact foldl_take _ 0 ys k a
theorem zoA(H x f M:Nat)(b a:Int)(d:(f:Int)=b)(c:(M:Int)=a):(((H:Int)+(x:Int)+1)%a*b)%a=(((H+x+1)*f%M:Nat):Int):=by
 subst d c;have e:(H:Int)+(x:Int)+1=((H+x+1:Nat):Int):=by omega
 rw[e,←Int.natCast_emod,←Int.natCast_mul,←Int.natCast_emod,Nat.mod_mul_mod]
theorem zjC(H n:Nat):(H:Int)/2^n=((H/2^n:Nat):Int):=by rw[Int.natCast_ediv,Int.natCast_pow];rfl
theorem index12_any(B S gh X:Nat)(m:S12.M)(p:Pl)(w:World)(h:St B S gh X m p w)(ao:1≤m.bits∧m.bits≤16)(au:1≤m.least∧m.least≤32)(al:m.least≤m.bytes.length)(ai:m.bytes.length≤65537)(C:S12.Byt m.bytes) :
 Calls Tryz.prog 219 #[.pointer (some ⟨S,0,none⟩)] w fun e w'=>e = .returned (.int .i64 (S12.idx m.bytes m.bits m.least:Int))∧Below w w w':=by
 obtain⟨E,x1,x2,z,x4,x5,x6,x7,x8⟩:=h.blk.nine;have O:=Rd.of_owns h.ob;have aq:m.bytes.length≤p.cb:=by
  obtain⟨a,c,e,h1,h2⟩:=zaV h.ob;simp at e;omega
 clear h;obtain⟨J,I,heads,d,at_,am,ap,ar,ag⟩:=m;simp only at *;obtain⟨L,hL⟩:∃L:Nat,I=L:=⟨I.toNat,by omega⟩;subst hL;obtain⟨n,hn⟩:∃n:Nat,J=n:=⟨J.toNat,by omega⟩;subst hn;obtain⟨g,o,M,R⟩:=ziY O (i:=0) om;rw[M]at z;clear O M x2 x4 x5 x6 x7 x8;obtain⟨b,D⟩:∃b:Nat,b=d.length-L:=⟨_,rfl⟩;obtain⟨ys,s⟩:∃ys:List Int,d.drop b=ys:=⟨_,rfl⟩;have ak:ys.length=L:=by rw[←s,List.length_drop];omega
 have u:∀j,j<L→w.cell? ⟨g,o+b+j,none⟩=some (.int .u8 (ys.getD j 0)):=fun j hj=>by
  rw[zcE,R (b+j) om,←s,List.getD,List.getD,zdI]
 have t:∀j,0≤ys.getD j 0∧ys.getD j 0<256:=fun j=>by
  have e:ys.getD j 0=d.getD (b+j) 0:=by rw[←s,List.getD,List.getD,zdI]
  rw[e];exact⟨C.get _,by have:=C.at (b+j);have:=C.get (b+j);omega⟩
 have W:S12.idx d (n:Int) (L:Int)=S12.hash ys/2^(32-n):=by
  unfold S12.idx;rw[Int.toNat_natCast,Int.toNat_natCast,←D,s]
 rw[W];obtain⟨q,f⟩:=zvJ (S12.hash ys/2^(32-n));rw[f];have Z:=zC f;clear f;have G:Cells w [(⟨S,3,none⟩,.slice (some ⟨g,o,none⟩) d.length p.cb),(⟨S,1,none⟩,L)]:=⟨z,x1,zT⟩;have ae:IntKind.i64.wrap ((d.length:Int)-(L:Int))=(b:Int):=by rw[IntWalk.i64_in _ om];omega
 have ac:(d.length:Int)-(b:Int)=(L:Int):=by omega
 have ad:d.length-b=L:=by omega
 have ab:¬p.cb=b:=by omega
 have aa:b≤d.length:=by omega
 clear W s R D;go_enter Tryz.func219,Tryz.ntmps219;go_wp2_with fail;refine zvL 20 0 [(U,0,20)] (Keeps w [(⟨S,3,none⟩,.slice (some ⟨g,o,none⟩) d.length p.cb),(⟨S,1,none⟩,L)]) (Keeps.start G) fun Y Q4 F4 hY P=> ?_;repeat refine mrd ?_
 refine mdn P fun K N=> ?_;clear P hY;go_wp2_with fail;refine mok N ?_;clear N G z ae ac ad ab aa;go_wp2_with fail;go_loopw [3,25] (fun h i wr=>∃k:Nat,k≤L∧i = .int .i64 (k:Int)∧h = .int .u32 (S12.hash (ys.take k):Int)∧Below w w wr) (fun _ i _=>L-(intOf i).toNat)
 case atStart=>exact⟨0,by omega,rfl,rfl,(zJ _ w).drew⟩
 case round=>
  obtain⟨k,hk,rfl,rfl,r⟩:=hrel;have zr:w.heap.size≤wr.heap.size:=r.size;by_cases F:k<L
  ·have af:=(r.cell (p:=⟨g,o+b+k,none⟩) (zE (u k F))).trans (u k F);have y:=zC (S12.hash_take (ys:=ys) (k:=k) om);have v:=S12.hash_lt (ys.take k);obtain⟨H,l⟩:=zvJ (S12.hash (ys.take k));obtain⟨x,A⟩:∃x:Nat,ys.getD k 0=x:=⟨(ys.getD k 0).toNat,by have:=t k;omega⟩;have ah:x<256:=by have:=t k;omega
   rw[l,A,Int.toNat_natCast]at y;rw[l]at v⊢;rw[A]at af;have Q:=zoA H x S12.factor 4294967296 2654435761 4294967296 rfl rfl;obtain⟨T,V⟩:∃T,(H+x+1)*S12.factor%4294967296=T:=⟨_,rfl⟩;rw[V]at Q y;clear A l t u V;go_wp2_with fail;go_roundw
   case rel=>exact⟨k+1,by omega,by go_num,by rw[y.out,Q],r⟩
   case measure=>simp[intOf];omega
  ·obtain rfl:k=L:=by omega
   have e:ys.take k=ys:=List.take_of_length_le om;rw[e];have v:=S12.hash_lt ys;have an:=(r.cell (p:=⟨S,0,none⟩) (zE E)).trans E;have f:=Z.out;obtain⟨H,l⟩:=zvJ (S12.hash ys);rw[l]at v f⊢;have hw:=zjC H (32-n);have aj:q<4294967296:=by rw[←f];exact Nat.lt_of_le_of_lt (zfB _ _) v
   rw[f]at hw;clear u t l e f;go_wp2_with fail;exact mf2 r
end Go.Proofs.YthhgkafloejjiaaGreat
namespace Go.Proofs.YthhgkafloejjiaaGreat
open Go.RowKit
theorem search12_any(B S d gc:Nat)(m:S12.M)(p:Pl)(w:World)(h:St B S d gc m p w)(ah:1≤m.bits∧m.bits≤16)(aj:1≤m.least∧m.least≤32)(am:m.bytes.length≤65537)(ax:S12.Byt m.bytes)
 (ae:m.heads.length=2^m.bits.toNat) (aq:∀x∈m.heads,0≤x∧x≤m.bytes.length) :
 Calls Tryz.prog 211 #[.pointer (some ⟨S,0,none⟩)] w fun e A=>e = .returned (.tuple #[])∧St B S d gc (S12.search m) p A∧Below B w A∧KeepF w A:=by
 have hS:=h.hs;have P:B≤w.heap.size:=yD hS (Nat.le_of_lt h.blk.lt);obtain⟨y,Q,v,L,x4,x5,H,M,z⟩:=h.blk.nine;have lS:=h.blk.lt;have ab:=h;have V:=zC ab;have C:=zC fun W (t:Below w w W) (av:m.least≤m.bytes.length)=>index12_any B S d gc m p W (h.step t) ah aj av am ax;have aF:m.bytes.length<9223372036854775808:=by omega
 have hC:Cells w [(⟨S,3,none⟩,.slice p.ab m.bytes.length p.cb),(⟨S,1,none⟩,m.least)]:=⟨L,Q,zT⟩
 have G:=zC fun W (t:Below w w W) (q:Nat) (hq:q≤m.bytes.length) (X:0<m.bytes.length)=>(show Calls Tryz.prog 220 #[.slice p.ab m.bytes.length p.cb,q] W fun e A=>e = .returned (.int .i64 (S12.rep m.bytes q:Int))∧Below W W A by
  have hs:=h.step t;have ac:=Rd.of_owns hs.ob;obtain⟨g,o,ar,_⟩:=ziY ac (i:=0) X;have ay:m.bytes.length≤p.cb:=by
   obtain⟨a,c,e,h1,h2⟩:=zaV hs.ob;simp at e;omega
  rw[ar]at ac⊢;exact zjL g o p.cb m.bytes q hq om ay X W ac)
 by_cases O:(m.bytes.length:Int)<m.least
 ·have r:S12.search m=m:=by unfold S12.search;rw[zQ O]
  rw[r];have ed:decide ((m.bytes.length:Int)<m.least)=true:=zO O;clear C G ab h r;go_enter Tryz.func211,Tryz.ntmps211;go_wp2_with fail;refine zvL 12 0 [(U,0,12)] (Keeps w [(⟨S,3,none⟩,.slice p.ab m.bytes.length p.cb),(⟨S,1,none⟩,m.least)]) (Keeps.start hC) fun Y Q4 F4 hY l=> ?_;repeat refine mrd ?_
  refine mdn l fun K k=> ?_;clear l hY;go_wp2_with fail;refine mok k ?_;clear k;go_wp2_with fail;go_returns;exact⟨rfl,V.out.step (yW _ w),yW _ w,KeepF.of (yW _ w)⟩
 have ed:decide ((m.bytes.length:Int)<m.least)=false:=zL O;obtain⟨i,J⟩:=zvJ (S12.idx m.bytes m.bits m.least);have N:i<m.heads.length:=by rw[←J,ae];exact S12.idx_lt _ _ ah
 obtain⟨F,E⟩:=zvJ (m.heads.getD i 0);have az:0≤F∧F≤m.bytes.length:=aq F (by rw[←E,S12.getD_in _ _ N];exact yR N);obtain⟨q,hq⟩:∃q:Nat,F=q:=⟨F.toNat,by omega⟩;subst hq;have j:S12.found m=(decide (m.len=0)&&decide (0<(q:Int))&&decide (m.least≤(S12.rep m.bytes q:Int))):=by
  unfold S12.found;rw[J,E,Int.toNat_natCast]
 have ad:S12.search m = {m with at_:=if S12.found m then(q:Int)else m.at_,len:=if S12.found m then(S12.rep m.bytes q:Int)else m.len,heads:=m.heads.set i m.bytes.length}:=by
  unfold S12.search;rw[zG O,J,E,Int.toNat_natCast]
 have yh:w.cell? ⟨d,i,none⟩=some (.int .i64 (q:Int)):=by
  rw[h.oh.cell (by rw[zR];exact N),←E,S12.getD_in _ _ N];simp[zaE]
 have lh:=h.oh.lt;have R:=h.hh;rw[J]at C;have C:=zC fun W t=>C.out W t om;have G:=zC fun W t=>G.out W t q om om;obtain⟨rp,al⟩:=zvJ (S12.rep m.bytes q);rw[al]at j ad G;rw[ad];have an:=h.ph;have au:m.heads.length≤65536:=by rw[ae];exact zcP (n:=2) om (show m.bits.toNat≤16 by omega)
 have aw:i<65536:=by omega
 have Z:=zC N;rw[an]at v;clear ad E aq ae J al h ab an am;obtain⟨fd,ak⟩:=zvJ (S12.found m);rw[ak]at j⊢;clear ak;have aB:(q:Int)<9223372036854775808:=by omega
 go_enter Tryz.func211,Tryz.ntmps211;go_wp2_with fail;refine zvL 12 0 [(U,0,12)] (Keeps w [(⟨S,3,none⟩,.slice p.ab m.bytes.length p.cb),(⟨S,1,none⟩,m.least)]) (Keeps.start hC) fun Y Q4 F4 hY l=> ?_;repeat refine mrd ?_
 refine mdn l fun K k=> ?_;clear l hY;go_wp2_with fail;refine mok k ?_;clear k;obtain⟨T,af⟩:=zvJ w.drew;have aa:Below w w T:=by rw[←af];exact yW _ w
 rw[af];clear hC af;have S1:=V.out.step aa;have z2:T.cell? ⟨S,2,none⟩=some (.slice (some ⟨d,0,none⟩) m.heads.length p.ch):=(S1.blk.cell 2).trans (by rw[←S1.ph];rfl);have D:Cells T [(⟨S,2,none⟩,.slice (some ⟨d,0,none⟩) m.heads.length p.ch)]:=⟨z2,zT⟩;clear S1;go_wp2_with fail;refine zvL 8 1 [(U,0,6),(zvE,6,1),(U,7,1)] (Keeps T [(⟨S,2,none⟩,.slice (some ⟨d,0,none⟩) m.heads.length p.ch)]) (Keeps.start D) fun Y Q4 F4 hY l=> ?_;repeat refine mrd ?_
 refine mcl ?_;refine(C.out _ (zA aa (Keeps.start D).1)).mono ?_;rintro e w2 ⟨rfl,ai⟩;refine⟨_,rfl,(Keeps.start D).step ai,?_⟩;simp only[zvF];repeat refine mrd ?_
 refine mdn l fun K k=> ?_;clear l hY;go_wp2_with fail;refine mok k ?_;clear k;have s:Below w w w2:=zA aa (zA (Keeps.start D).1 ai);clear D z2 ai;have f:=V.out.step s;obtain⟨y,Q,v,L,x4,x5,H,M,z⟩:=f.blk.nine;have ap:=(s.cell (p:=⟨d,i,none⟩) lh).trans yh;have aA:=f.oh.free i;have f4:=f.blk.free 4;have f5:=f.blk.free 5;obtain⟨f,aD⟩:=zh2 f aj;clear az aB aj ah ed O aw au;cases r:decide (m.len=0)with
 | false=>
   rw[r,zdD,zdD]at j;subst j;have e1:(m.len==0)=false:=by have:=of_decide_eq_false r;simp[this]
   have b:=zC (f.out.putH i Z.out m.bytes.length);clear r;go_wp2_with fail;go_returns;exact⟨rfl,b.out,(s.mono P).setCell (p:=⟨d,i,none⟩) R _,(KeepF.of s).trans (KeepF.setO f.out.oh by2)⟩
 | true=>
   have e1:(m.len==0)=true:=by have:=zbE r;simp[this]
   rw[r,zaP]at j;rcases zdV q with ao|ao
   ·rw[show decide (0<(q:Int))=false from zL om,zdD]at j;subst j;subst ao;clear r;have b:=zC (f.out.putH i Z.out m.bytes.length);go_wp2_with fail;go_returns;exact⟨rfl,b.out,(s.mono P).setCell (p:=⟨d,i,none⟩) R _,(KeepF.of s).trans (KeepF.setO f.out.oh by2)⟩
   ·rw[show decide (0<(q:Int))=true from zO om,zaP]at j;clear r;have I:Cells w2 [(⟨S,3,none⟩,.slice p.ab m.bytes.length p.cb),(⟨d,i,none⟩,q)]:=⟨L,ap,zT⟩;go_wp2_with fail;refine zvL 9 1 [(U,0,8),(zvE,8,1)] (Keeps w2 [(⟨S,3,none⟩,.slice p.ab m.bytes.length p.cb),(⟨d,i,none⟩,q)]) (Keeps.start I) fun Y Q4 F4 hY l=> ?_;repeat refine mrd ?_
    refine mcl ?_;refine(G.out _ (zA s (Keeps.start I).1)).mono ?_;rintro e w3 ⟨rfl,ag⟩;refine⟨_,rfl,(Keeps.start I).step ag,?_⟩;simp only[zvF];refine mdn l fun K k=> ?_;clear l hY;go_wp2_with fail;refine mok k ?_;clear k;have u:Below w w w3:=zA s (zA (Keeps.start I).1 ag);have aC:=f.out.blk.lt;have aG:=f.out.oh.lt;have X:¬S=d:=fun e=>f.out.oh.ne f.out.blk by2 e.symm;have aE:¬d=S:=fun e=>X e.symm;clear I ag y Q v L x4 x5 H M z ap aA f4 f5 f e1;have b:=V.out.step u;obtain⟨y,Q,v,L,x4,x5,H,M,z⟩:=b.blk.nine;have aH:=(u.cell (p:=⟨d,i,none⟩) lh).trans yh;have aI:=b.oh.free i;have f4:=b.blk.free 4;have f5:=b.blk.free 5;have b:=zC b;cases fd with
    | true=>
      have e4:decide (m.least≤(rp:Int))=true:=j.symm;have S4:=zC (((b.out.put (m':={m with at_:=(q:Int)}) 4 _ rfl rfl rfl rfl).put (m':={m with at_:=(q:Int),len:=(rp:Int)}) 5 _ rfl rfl rfl rfl).putH i Z.out m.bytes.length);clear j y H M z v;go_wp2_with fail;go_returns
      exact⟨rfl,S4.out,(((u.mono P).setCell (p:=⟨S,4,none⟩) hS _).setCell (p:=⟨S,5,none⟩) hS _).setCell (p:=⟨d,i,none⟩) R _,
       (KeepF.of u).trans ((KeepF.set b.out.blk by2).trans ((KeepF.set (b.out.blk.set 4 _) by2).trans (KeepF.setO ((b.out.oh.other S 4 _ (b.out.oh.ne b.out.blk by2)).other S 5 _ (b.out.oh.ne b.out.blk by2)) by2)))⟩
    | false=>
      have e4:decide (m.least≤(rp:Int))=false:=j.symm;have S4:=zC (b.out.putH i Z.out m.bytes.length);clear j y H M z v;go_wp2_with fail;go_returns;exact⟨rfl,S4.out,(u.mono P).setCell (p:=⟨d,i,none⟩) R _,(KeepF.of u).trans (KeepF.setO b.out.oh by2)⟩
theorem conv12(xs:List Int)(a:Option Addr)(cap:Nat)(w:World)(p:Rd w a (Bts xs)):(convert 38 9 (.slice a xs.length cap)).run Tryz.prog w = .ok (.string (strOfNums xs)) w:=by
 by_cases f:xs = []
 ·subst f;have c:strOfNums []=ByteArray.empty:=rfl;cases a with
  | none=>rw[c];exact run_convert_bytes_nil w 38 5 Tryz.underlying38 Tryz.underlying5 _ _ 9 Tryz.underlying9
  | some m=>
    obtain⟨b,o,k⟩:=m;have h:=run_convert_bytes_string (P:=Tryz.prog) w 38 9 5 (some ⟨b,o,k⟩) 0 cap Tryz.underlying38 Tryz.underlying5 Tryz.underlying9;rw[c];have d:=run_loadCells_list (P:=Tryz.prog) w ⟨b,o,k⟩ [] (fun j v n=>by simp at n);simp only[List.length_nil]at d;refine h.trans ?_;simp[Conv.bytesToString,d]
 ·obtain⟨b,o,rfl,l⟩:=p (fun e=>f (by have:=yG List.length e;rw[zaC]at this;exact List.length_eq_zero_iff.1 (by simpa using this)));exact run_convert_bytes_arg w 38 5 Tryz.underlying38 Tryz.underlying5 b o xs.length cap xs rfl (fun i g=>l i _ (by unfold Bts;rw[yI,zD g,S12.getD_in _ _ g];rfl)) 9 Tryz.underlying9
end Go.Proofs.YthhgkafloejjiaaGreat
namespace Go.Proofs.YthhgkafloejjiaaGreat
open Go.RowKit
theorem Cts_one(xs:List (Int×Int)):∀u∈Cts xs,u.oneCell'=true:=by
 intro u a;simp only[Cts,List.mem_flatMap]at a;obtain⟨x,_,a⟩:=a;simp at a;rcases a with rfl|rfl<;>rfl
theorem Own.of_owns{w:World}{f:Nat}{e:TypeId}{c n cap:Nat}{a:Option Addr}{xs:List Value}(h:w.ownsRow f e c (.slice a n cap) n xs)(q:1≤n)(p:1≤c):∃g,a=some ⟨g,0,none⟩∧f≤g∧Own w g e xs:=by
 rcases h.2 with⟨d,r⟩|⟨g,o,b,d,j,l,m,s,i,k⟩
 ·omega
 ·simp only[Value.slice.injEq,true_and]at d;obtain⟨rfl,rfl⟩:=d;refine⟨g,rfl,j,b.toList.drop xs.length,?_⟩;have:b.toList=xs++b.toList.drop xs.length:=by
   rw[←k]
   conv=>lhs;rw[←zU (n*c) b.toList]
   congr 2
   rw[yJ];have:b.toList.length=cap*c:=by simpa using i
   have:=Nat.mul_le_mul_right c m;omega
  rw[←this];exact l
theorem ziT(xs:List Int)(a:Option Addr)(cap:Nat)(w:World)(x:1≤xs.length)(z:xs.length≤65536)(m:Rd w a (zaE xs)) :
 Calls Tryz.prog 208 #[.slice a xs.length cap] w fun e l=>∃b t,e = .returned (.slice (some ⟨b,0,none⟩) xs.length t)∧w.heap.size≤b∧Own l b 3 (zaE xs)∧Below w w l:=by
 obtain⟨g,o,rfl,_⟩:=m.at (i:=0) (by rw[zR];omega);have A:∀(w:World) (a:Option Addr) (n c h f:Nat),(binOp .eql 41 (.slice a n c) (.slice none h f)).run Tryz.prog w = .ok (.bool a.isNone) w:=fun w a n c h f=>Lib.run_eql_slice_nil w _ _ a n c h f Tryz.underlying41;have y:=zC (m.step ((zJ w.heap.size w).alloc (zF _) (Obj.cells #[] 3)));go_enter Tryz.func208,Tryz.ntmps208;go_wp2_with (at_builtin;refine yQ _ _ 41 3 1 8 _ w.heap.size zqZ rfl rfl _ 0 [] rfl (World.ownsRow_made w #[] 0 (zF _) by2 rfl) (some ⟨g,o,none⟩) xs.length cap (zaE xs) rfl (by simp[zaE]) y.out (zgH xs) by5 om by1 ?_;intro B q v d j);have s:Below w w v:=Below.grown zo j by1 (fun k e=>by cases e;exact zF _);simp only[yE,lna]at d;obtain⟨b,rfl,r,p⟩:=Own.of_owns d x by2;have u:=zC p;clear j d p;go_wp2;go_returns;exact⟨b,q,by simp,r,u.out,s⟩
theorem zjR(xs:List (Int×Int))(a:Option Addr)(cap:Nat)(w:World)(x:1≤xs.length)(z:xs.length≤65536)(m:Rd w a (Cts xs)) :
 Calls Tryz.prog 166 #[.slice a xs.length cap] w fun e l=>∃b t,e = .returned (.slice (some ⟨b,0,none⟩) xs.length t)∧w.heap.size≤b∧Own l b 143 (Cts xs)∧Below w w l:=by
 obtain⟨g,o,rfl,_⟩:=m.at (i:=0) (by rw[yT];omega);have A:∀(w:World) (a:Option Addr) (n c h f:Nat),(binOp .eql 37 (.slice a n c) (.slice none h f)).run Tryz.prog w = .ok (.bool a.isNone) w:=fun w a n c h f=>Lib.run_eql_slice_nil w _ _ a n c h f Tryz.underlying37;have y:=zC (m.step ((zJ w.heap.size w).alloc (zF _) (Obj.cells #[] 143)));go_enter Tryz.func166,Tryz.ntmps166;go_wp2_with (at_builtin;refine yQ _ _ 37 143 2 16 _ w.heap.size zmV rfl rfl _ 0 [] rfl (World.ownsRow_made w #[] 0 (zF _) by2 rfl) (some ⟨g,o,none⟩) xs.length cap (Cts xs) rfl (by rw[yT]) y.out (Cts_one xs) by5 om by1 ?_;intro B q v d j);have s:Below w w v:=Below.grown zo j by1 (fun k e=>by cases e;exact zF _);simp only[yE,lna]at d;obtain⟨b,rfl,r,p⟩:=Own.of_owns d x by2;have u:=zC p;clear j d p;go_wp2;go_returns;exact⟨b,q,by simp,r,u.out,s⟩
theorem zhS(xs:List Int)(a:Option Addr)(cap:Nat)(w:World)(z:xs.length≤65536)(m:Rd w a (Bts xs)) :
 Calls Tryz.prog 106 #[.slice a xs.length cap] w fun e j=>∃i l,e = .returned (.slice i xs.length l)∧j.ownsRow w.heap.size 5 1 (.slice i xs.length l) xs.length (Bts xs)∧Below w w j:=by
 have A:∀(w:World) (a:Option Addr) (n c g f:Nat),(binOp .eql 38 (.slice a n c) (.slice none g f)).run Tryz.prog w = .ok (.bool a.isNone) w:=fun w a n c g f=>Lib.run_eql_slice_nil w _ _ a n c g f Tryz.underlying38;cases a with
 | none=>
   have y:xs = []:=by
    cases hxs:xs with
    | nil=>rfl
    | cons x r=>obtain⟨b,o,e,_⟩:=m (by rw[hxs];simp[Bts]);cases e
   subst y;go_enter Tryz.func106,Tryz.ntmps106;go_wp2_with fail;go_returns;exact⟨none,0,rfl,World.ownsRow_nil w _ _ 1,zJ _ _⟩
 | some a=>
   have v:=zC (m.step ((zJ w.heap.size w).alloc (zF _) (Obj.cells #[] 5)));go_enter Tryz.func106,Tryz.ntmps106;go_wp2_with (at_builtin;refine yQ _ _ 38 5 1 1 _ w.heap.size zeL rfl rfl _ 0 [] rfl (World.ownsRow_made w #[] 0 (zF _) by2 rfl) (some a) xs.length cap (Bts xs) rfl (by simp[Bts]) v.out (zvC xs) by5 om by1 ?_;intro q p u d h);have s:Below w w u:=Below.grown zo h by1 (fun k e=>by cases e;exact zF _);simp only[yE,lna]at d;have t:=zC d;clear h d;go_wp2;go_returns;exact⟨q,p,by simp,t.out,s⟩
end Go.Proofs.YthhgkafloejjiaaGreat
namespace Go.Proofs.YthhgkafloejjiaaGreat
open Go.RowKit
theorem St.mis{B S f b:Nat}{m:S12.M}{p:Pl}{w:World}(h:St B S f b m p w)(d:S12.Byt m.bytes)(l:m.heads.length≤65536)(g:m.bytes.length≤65536)(j:m.ctrs.length≤65536):MIs m p w:=by
 refine⟨by rw[h.ph];exact h.oh.rd,Rd.of_owns h.ob,by rw[h.pc];exact h.oc.rd,d,?_,by omega,by omega,by omega⟩;obtain⟨a,c,e,i,k⟩:=zaV h.ob;simp at e;omega
theorem owns_base{w:World}{B b:Nat}{e:TypeId}{c n:Nat}{v:Value}{xs:List Value}(h:w.ownsRow B e c v n xs)(i:b≤B):w.ownsRow b e c v n xs:=by
 refine⟨h.1,?_⟩;rcases h.2 with a|⟨g,d,f,a,j,r⟩
 ·exact .inl a
 ·exact .inr ⟨g,d,f,a,yD i j,r⟩
theorem Blk.grownO{w w':World}{b:Nat}{c:List Value}{t:TypeId}{k n cap:Nat}{e:TypeId}{a:Option Addr}{xs:List Value}(h:Blk w b c t)(d:w.ownsRow k e 1 (.slice a n cap) n xs)(l:¬e=t)(i:w.grownBy w' (Value.slice a n cap).ownBlock):Blk w' b c t:=by
 have g:=zaS d h l;have f:=h.lt;obtain⟨_,_,_,_,j⟩:=i;unfold Blk at h⊢;rw[j b f (fun e=>g e.symm)];exact h
theorem Own.grownO{w w':World}{g:Nat}{vals:List Value}{t:TypeId}{d n cap:Nat}{e:TypeId}{a:Option Addr}{xs:List Value}(h:Own w g t vals)(b:w.ownsRow d e 1 (.slice a n cap) n xs)(f:¬e=t)(c:w.grownBy w' (Value.slice a n cap).ownBlock):Own w' g t vals:=by
 obtain⟨r,h⟩:=h;exact⟨r,h.grownO b f c⟩
theorem Bts_app(l:List Int)(y:Int):Bts (l ++ [y])=Bts l ++ [.int .u8 y]:=by simp[Bts]
theorem S12.WF.sizes{m:S12.M}(h:S12.WF m):m.heads.length≤65536∧m.bytes.length≤65536∧m.ctrs.length≤65536:=by
 refine⟨?_,h.few,by have:=h.ctrs;omega⟩;rw[h.heads];exact zcP (n:=2) om (show m.bits.toNat≤16 by have:=h.bits;omega)
theorem MIs.put9{m:S12.M}{p:Pl}{w:World}(h:MIs m p w){b:Nat}(l:∀g o,p.ah=some ⟨g,o,none⟩→zaE m.heads≠ []→¬g=b)(a:∀g o,p.ab=some ⟨g,o,none⟩→Bts m.bytes≠ []→¬g=b)(e:∀g o,p.ac=some ⟨g,o,none⟩→Cts m.ctrs≠ []→¬g=b)(k f i d c n j r q:Value) :
 MIs m p (((((((((w.setCell ⟨b,0,none⟩ k).setCell ⟨b,1,none⟩ f).setCell ⟨b,2,none⟩ i).setCell ⟨b,3,none⟩ d).setCell ⟨b,4,none⟩ c).setCell ⟨b,5,none⟩ n).setCell ⟨b,6,none⟩ j).setCell ⟨b,7,none⟩ r).setCell ⟨b,8,none⟩ q):=
 ⟨h.rdh.put9 l _ _ _ _ _ _ _ _ _,h.rdb.put9 a _ _ _ _ _ _ _ _ _,h.rdc.put9 e _ _ _ _ _ _ _ _ _,h.byt,h.cb,h.lh,h.lb,h.lc⟩
theorem St.apart{B S b a:Nat}{m:S12.M}{p:Pl}{w:World}(h:St B S b a m p w){r:Nat}(c:r<B) :
 (∀g o,p.ah=some ⟨g,o,none⟩→zaE m.heads≠ []→¬g=r)∧(∀g o,p.ab=some ⟨g,o,none⟩→Bts m.bytes≠ []→¬g=r)∧(∀g o,p.ac=some ⟨g,o,none⟩→Cts m.ctrs≠ []→¬g=r):=by
 refine⟨fun g o e _=> ?_,fun g o e _=> ?_,fun g o e _=> ?_⟩
 ·rw[h.ph]at e;cases e;have:=h.hh;omega
 ·have:=h.ob.lt g (by rw[e];rfl);omega
 ·rw[h.pc]at e;cases e;have:=h.hc;omega
theorem St.far{B S b a:Nat}{m:S12.M}{p:Pl}{w:World}(h:St B S b a m p w):Far B p:=by
 refine⟨fun g o e=> ?_,fun g o e=> ?_,fun g o e=> ?_⟩
 ·rw[h.ph]at e;cases e;exact h.hh
 ·exact(h.ob.lt g (by rw[e];rfl)).1
 ·rw[h.pc]at e;cases e;exact h.hc
theorem S12.extend_keeps(m:S12.M):(S12.extend m).bits=m.bits∧(S12.extend m).least=m.least∧(S12.extend m).heads=m.heads∧(S12.extend m).bytes=m.bytes∧(S12.extend m).part=m.part∧(S12.extend m).ctrs=m.ctrs:=by
 unfold S12.extend;split<;>exact⟨rfl,rfl,rfl,rfl,rfl,rfl⟩
theorem S12.search_bytes(m:S12.M):(S12.search m).bytes=m.bytes:=by unfold S12.search;split<;>rfl
theorem S12.Byt.app{l:List Int}{y:Int}(h:S12.Byt l)(b:0≤y∧y<256):S12.Byt (l ++ [y]):=fun z a=>by
 rcases List.mem_append.1 a with a|a
 ·exact h z a
 ·rw[List.mem_singleton.1 a];exact b
def S12.stepN(m:S12.M):Nat→S12.M
 | 0=>m
 | 1=>S12.extend m
 | _=>S12.search (S12.extend m)
structure S12.Full(k:S12.M):Prop where
 len:0≤k.len∧k.len≤255
 at_:0≤k.at_∧k.at_≤1000000
 bits:1≤(S12.extend k).bits∧(S12.extend k).bits≤16
 least:1≤(S12.extend k).least∧(S12.extend k).least≤32
 few:(S12.extend k).bytes.length≤65537
 byt:S12.Byt (S12.extend k).bytes
 heads:(S12.extend k).heads.length=2^(S12.extend k).bits.toNat
 head:∀x∈(S12.extend k).heads,0≤x∧x≤(S12.extend k).bytes.length
theorem S12.full_ok{m n:S12.M}{b y:Int}(h:S12.WF m)(a:S12.Lrn m n b)(k:S12.Byt m.bytes)(j:0≤y∧y<256):S12.Full {n with bytes:=n.bytes ++ [y],part:=1}:=by
 obtain⟨f,l,e,c,u,q⟩:=S12.extend_keeps {n with bytes:=n.bytes ++ [y],part:=1};have s:=h.few;have i:(0≤n.len∧n.len≤255)∧(0≤n.at_∧n.at_≤1000000):=by
  rcases a.alt with⟨d,o⟩|⟨d,o,t,r⟩
  ·omega
  ·have g:=h.Mat d;have:=g.len;have:=g.at_;omega
 refine⟨i.1,i.2,?_,?_,?_,?_,?_,?_⟩
 ·rw[f];simp only[a.bits];exact h.bits
 ·rw[l];simp only[a.least];exact h.least
 ·rw[c];simp only[a.bytes,zaG,List.length_singleton];omega
 ·rw[c];simp only[a.bytes];exact k.app j
 ·rw[e,f];simp only[a.heads,a.bits];exact h.heads
 ·rw[e,c];simp only[a.heads,a.bytes,zaG,List.length_singleton];intro x p;have:=h.head x p;omega
end Go.Proofs.YthhgkafloejjiaaGreat
namespace Go.Proofs.YthhgkafloejjiaaGreat
open Go.RowKit
theorem bit12_full(m:S12.M)(p:Pl)(b:Int)(w:World)(hM:MIs m p w)(x:S12.bitE m b=0)(cl:128≤m.part) :
 Calls Tryz.prog 204 #[MV m p,b] w fun e w'=>∃p',e = .returned (.tuple #[MV (S12.bitM m b) p',.int .i64 0])∧MIs (S12.bitM m b) p' w'∧Far w.heap.size p'∧Below w w w':=by
 have am:S12.check m=0:=by
  cases h:decide (S12.check m=0)with
  | true=>exact zbE h
  | false=>unfold S12.bitE at x;rw[zQ (of_decide_eq_false h)]at x;exact x
 have r:=(S12.check_iff m).1 am;have cj:b=0∨b=1:=by
  unfold S12.bitE at x;rw[zG (by rw[am];simp)]at x;split at x
  ·cases x
  ·omega
 have b1:¬(128≤m.part∧65536≤m.bytes.length):=by
  unfold S12.bitE at x;rw[zG (by rw[am];simp),zG om]at x;split at x
  ·cases x
  ·assumption
 have a6:=zC (r.bitM hM.byt cj x);have aq:=zC fun W hW=>zfU m p W hW;rw[am]at aq;have HW:=zC fun W=>zdO b 0 1 W;rw[show decide (0≤b∧b≤1)=true from zO om]at HW;have be:0≤m.len:=by
  rcases(S12.matched_iff m).1 r.mat with⟨h,_⟩|h
  ·omega
  ·have:=h.len;omega
 have bD:=zC fun(B S d c:Nat) (p1:Pl) (W:World) (h:St B S d c m p1 W)=>zqS B S d c m p1 b W h r.ctrs r.ctr be;have hL:=r.learn b;have bi:2^m.bits.toNat≤65536:=zcP (n:=2) om (show m.bits.toNat≤16 by have:=r.bits;omega);have bp:1≤m.heads.length:=by rw[r.heads];exact zaJ _
 have bs:m.heads.length≤65536:=by rw[r.heads];exact bi
 have cm:=r.ctrs;have bx:=r.few;have b5:=zC fun W (h:Rd W p.ah (zaE m.heads))=>ziT m.heads p.ah p.ch W bp bs h;have b8:=zC fun W (h:Rd W p.ab (Bts m.bytes))=>zhS m.bytes p.ab p.cb W bx h;have b0:=zC fun W (h:Rd W p.ac (Cts m.ctrs))=>zjR m.ctrs p.ac p.cc W om om h;have dc:decide (128≤m.part)=true:=by simp;omega
 have dl:decide (65536≤(m.bytes.length:Int))=false:=by simp;omega
 obtain⟨a3,HM,aN⟩:=zh3 r hM hL;have ay:Below w w ((w.alloc (.cells (yX m p).toArray 43)).alloc (.cells #[.int .i64 0,.int .i64 0,.slice none 0 0,.slice none 0 0,.int .i64 0,.int .i64 0,.int .i64 0,.int .i64 0,.slice none 0 0] 43)):=by go_grown
 have A0:Blk ((w.alloc (.cells (yX m p).toArray 43)).alloc (.cells #[.int .i64 0,.int .i64 0,.slice none 0 0,.slice none 0 0,.int .i64 0,.int .i64 0,.int .i64 0,.int .i64 0,.slice none 0 0] 43)) w.heap.size (yX m p) 43:=(Blk.new w _ _).alloc _;have R0:Blk ((w.alloc (.cells (yX m p).toArray 43)).alloc (.cells #[.int .i64 0,.int .i64 0,.slice none 0 0,.slice none 0 0,.int .i64 0,.int .i64 0,.int .i64 0,.int .i64 0,.slice none 0 0] 43)) (w.heap.size+1) [.int .i64 0,.int .i64 0,.slice none 0 0,.slice none 0 0,.int .i64 0,.int .i64 0,.int .i64 0,.int .i64 0,.slice none 0 0] 43:=by
  have h:=Blk.new (w.alloc (.cells (yX m p).toArray 43)) [.int .i64 0,.int .i64 0,.slice none 0 0,.slice none 0 0,.int .i64 0,.int .i64 0,.int .i64 0,.int .i64 0,.slice none 0 0] 43;simpa using h
 clear x am r hM hL bi bp bs cm b1 bx be;obtain⟨mR,aa⟩:=zvJ (S12.bitM m b);rw[aa]at a6⊢;have bq:=zC aa;clear aa;unfold MV at aq;unfold yX at aq A0 R0 ay;show Calls Tryz.prog 204 #[.agg #[m.bits,m.least,.slice p.ah m.heads.length p.ch,.slice p.ab m.bytes.length p.cb,m.at_,m.len,m.part,m.bit,.slice p.ac m.ctrs.length p.cc],b] w _;go_enter Tryz.func204,Tryz.ntmps204;obtain⟨I,L,O,Q,N,R,M,T,J⟩:=A0.nine;obtain⟨w0,bL⟩:=zvJ (((w.alloc (.cells #[m.bits,m.least,.slice p.ah m.heads.length p.ch,.slice p.ab m.bytes.length p.cb,m.at_,m.len,m.part,m.bit,.slice p.ac m.ctrs.length p.cc] 43)).alloc (.cells #[.int .i64 0,.int .i64 0,.slice none 0 0,.slice none 0 0,.int .i64 0,.int .i64 0,.int .i64 0,.int .i64 0,.slice none 0 0] 43)));rw[bL]at ay A0 R0 I L O Q N R M T J;go_wp2_with fail;refine mnb ay (aq.out _ (HM.out.step ay)) fun w1 bH cf=> ?_;go_wp2_with fail;refine mnb cf (HW.out _) fun w2 bR ca=> ?_;have A2:=(A0.step bH).step bR;have R2:=(R0.step bH).step bR;clear I L O Q N R M T J A0 R0 bL;obtain⟨I,L,O,Q,N,R,M,T,J⟩:=A2.nine;go_wp2_with fail;obtain⟨S,hS⟩:=zvJ w2.heap.size;obtain⟨w3,aL,_,aG⟩:=al1 w2 [m.bits,m.least,.slice p.ah m.heads.length p.ch,.slice p.ab m.bytes.length p.cb,m.at_,m.len,m.part,m.bit,.slice p.ac m.ctrs.length p.cc] 240;have S3:Blk w3 S [m.bits,m.least,.slice p.ah m.heads.length p.ch,.slice p.ab m.bytes.length p.cb,m.at_,m.len,m.part,m.bit,.slice p.ac m.ctrs.length p.cc] 240:=by rw[←aL,←hS];exact Blk.new w2 _ _
 have ap:=zA ca aG;have A3:=A2.step aG;have R3:=R2.step aG;have cw:w.heap.size+1<S:=by rw[←hS];exact R2.lt
 have aT:zdM [(⟨w,2,none⟩,.slice p.ah m.heads.length p.ch),(⟨w,3,none⟩,.slice p.ab m.bytes.length p.cb),(⟨w,8,none⟩,.slice p.ac m.ctrs.length p.cc)] w3:=⟨A3.cell 2,A3.cell 3,A3.cell 8,zT⟩;rw[aL,hS];clear I L O Q N R M T J A2 R2 aL aG dc;refine zvL 24 0 [(U,0,5),(U,6,2),(U,9,2),(zvE,5,1),(zvE,8,1),(zvE,11,1),(U,12,3),(zvE,15,1),(U,16,3),(zvE,19,1),(U,20,3),(zvE,23,1)] (zdM [(⟨w,2,none⟩,.slice p.ah m.heads.length p.ch),(⟨w,3,none⟩,.slice p.ab m.bytes.length p.cb),(⟨w,8,none⟩,.slice p.ac m.ctrs.length p.cc)]) (aT) fun Y Q4 F4 hY hF=> ?_;repeat refine mrh ?_
 have ar:=yW w3.heap.size w3;refine mcl ?_;refine(b5.out _ ((HM.out.step ap).step ar).rdh).mono ?_;rintro e w4 ⟨d,g,rfl,b6,bE,bA⟩;have a0:=zA ar bA;have aS:=Cells.step a0 aT;refine⟨_,rfl,aS,?_⟩;simp only[zvF];refine mcl ?_;refine(b8.out _ ((HM.out.step ap).step a0).rdb).mono ?_;rintro e w5 ⟨G,F,rfl,bB,aD⟩;have bF:=zA a0 aD;have aU:=Cells.step aD aS;refine⟨_,rfl,aU,?_⟩;simp only[zvF];refine mcl ?_;refine(b0.out _ ((HM.out.step ap).step bF).rdc).mono ?_;rintro e w6 ⟨c,f,rfl,bY,bQ,aK⟩;have a2:=zA bF aK;have an:=Cells.step aK aU;refine⟨_,rfl,an,?_⟩;simp only[zvF];have D:=S3.step a2;have z2:=D.cell 2;have z3:=D.cell 3;have z8:=D.cell 8;have g2:=D.free 2;have g3:=D.free 3;have g8:=D.free 8;simp only[zvH]at z2 z3 z8;have cy:=S3.lt;have aO:¬S=w.heap.size:=by omega
 have ad:∀(X:World) (i:Nat) (v:Value),zdM [(⟨w,2,none⟩,.slice p.ah m.heads.length p.ch),(⟨w,3,none⟩,.slice p.ab m.bytes.length p.cb),(⟨w,8,none⟩,.slice p.ac m.ctrs.length p.cc)] X→
  zdM [(⟨w,2,none⟩,.slice p.ah m.heads.length p.ch),(⟨w,3,none⟩,.slice p.ab m.bytes.length p.cb),(⟨w,8,none⟩,.slice p.ac m.ctrs.length p.cc)] (X.setCell ⟨S,i,none⟩ v):=fun X i v h=>
  ⟨(zaM X S i _ _ v aO).trans h.1,(zaM X S i _ _ v aO).trans h.2.1,(zaM X S i _ _ v aO).trans h.2.2.1,zT⟩
 repeat refine mrh ?_
 refine mst (ad _ _ _ an) ?_;repeat refine mrh ?_
 refine mst (ad _ _ _ (ad _ _ _ an)) ?_;repeat refine mrh ?_
 refine mst (ad _ _ _ (ad _ _ _ (ad _ _ _ an))) ?_;refine mdn hF fun K hK=> ?_;clear hF hY;have T7:St S S d c m ⟨some ⟨d,0,none⟩,g,G,F,some ⟨c,0,none⟩,f⟩ (((w6.setCell ⟨S,2,none⟩ (.slice (some ⟨d,0,none⟩) m.heads.length g)).setCell ⟨S,3,none⟩ (.slice G m.bytes.length F)).setCell ⟨S,8,none⟩ (.slice (some ⟨c,0,none⟩) m.ctrs.length f)):=by
  have bZ:=(bE.step aD).step aK;have hd:=ar.size;have h4:=bA.size;have h5:=aD.size;have d1:¬d=S:=by omega
  have d2:¬c=S:=by omega
  exact⟨((D.set 2 _).set 3 _).set 8 _,rfl,rfl,zF _,by omega,by omega,((bZ.other S 2 _ d1).other S 3 _ d1).other S 8 _ d1,((bQ.other S 2 _ d2).other S 3 _ d2).other S 8 _ d2,
   zfD (zfD (zfD (owns_base (yM (B:=0) bB aK) om) D by2) (D.set 2 _) by2) ((D.set 2 _).set 3 _) by2⟩
 have bo:Below w w (((w6.setCell ⟨S,2,none⟩ (.slice (some ⟨d,0,none⟩) m.heads.length g)).setCell ⟨S,3,none⟩ (.slice G m.bytes.length F)).setCell ⟨S,8,none⟩ (.slice (some ⟨c,0,none⟩) m.ctrs.length f)):=
  (((zA ap a2).setCell (p:=⟨S,2,none⟩) (show w.heap.size≤S by omega) _).setCell (p:=⟨S,3,none⟩) (show w.heap.size≤S by omega) _).setCell (p:=⟨S,8,none⟩) (show w.heap.size≤S by omega) _
 have V:¬w.heap.size+1=S:=by omega
 have R7:=(((R3.step a2).other S 2 (.slice (some ⟨d,0,none⟩) m.heads.length g) V).other S 3 (.slice G m.bytes.length F) V).other S 8 (.slice (some ⟨c,0,none⟩) m.ctrs.length f) V;go_wp2_with fail;refine mok hK ?_;clear hK ad aT aS aU an z2 z3 z8 g2 g3 g8 bE bB bQ b6 bY A3 R3 S3 D;obtain⟨w7,bP⟩:=zvJ ((((w6.setCell ⟨S,2,none⟩ (.slice (some ⟨d,0,none⟩) m.heads.length g)).setCell ⟨S,3,none⟩ (.slice G m.bytes.length F)).setCell ⟨S,8,none⟩ (.slice (some ⟨c,0,none⟩) m.ctrs.length f)));rw[bP]at T7 bo R7⊢;clear bP;go_wp2_with fail;refine(bD.out S S d c _ _ T7).mono ?_;rintro e w8 ⟨rfl,T8,bz⟩;have ci:=bo.trans (bz.mono (show w.heap.size≤S by omega));have R8:=R7.below bz om;obtain⟨n,hn⟩:=zvJ (S12.learn m b);rw[hn]at T8 aN;have r:=a3.out;have hL:=aN.out;have aa:mR=S12.expect (S12.take n (2*n.part+b)):=by rw[←bq.out];unfold S12.bitM;rw[hn]
 obtain⟨P,hP⟩:=zvJ (2*n.part+b);have cq:1≤n.part∧n.part≤255:=by rw[hL.part];exact r.part
 have cv:2≤P∧P≤511:=by omega
 have b2:256≤P:=by have:=hL.part;omega
 have b7:decide (255<P)=true:=by simp;omega
 rw[hP]at aa;have ht:S12.take n P=S12.search (S12.extend {n with bytes:=n.bytes ++ [P-256],part:=1}):=by unfold S12.take;rw[zQ om]
 rw[ht]at aa;have ak:=zC aa;have T9:St S S d c {n with part:=P} ⟨some ⟨d,0,none⟩,g,G,F,some ⟨c,0,none⟩,f⟩ (w8.setCell ⟨S,6,none⟩ (.int .i64 P)):=T8.put 6 _ rfl rfl rfl rfl;have ba:=ci.setCell (p:=⟨S,6,none⟩) (show w.heap.size≤S by omega) (.int .i64 P);have R9:=R8.other S 6 (.int .i64 P) V;obtain⟨I,L,O,Q,N,R,M,T,J⟩:=T8.blk.nine;have f6:=T8.blk.free 6;clear aa ht r bD bq;have a4:=zC hL;clear aN hL;have av:zdM [(⟨S,3,none⟩,.slice G n.bytes.length F),(⟨S,6,none⟩,P)] (w8.setCell ⟨S,6,none⟩ (.int .i64 P)):=⟨T9.blk.cell 3,T9.blk.cell 6,zT⟩;go_wp2_with fail;obtain⟨o,bh⟩:=zvJ (w8.setCell ⟨S,6,none⟩ (.int .i64 P));rw[bh]at T9 ba R9 av⊢;clear bh I L O Q N R M T J f6;obtain⟨y,hy⟩:=zvJ (P-256);have bG:0≤y∧y<256:=by omega
 have bj:P%256=y:=by omega
 have ck:IntKind.u8.wrap P=y:=by rw[IntKind.wrap_u8];exact bj
 have E:=zC (S12.full_ok a3.out a4.out HM.out.byt bG);have ct:S12.Byt n.bytes:=by rw[a4.out.bytes];exact HM.out.byt
 have cu:n.bytes.length≤65536:=by rw[a4.out.bytes];exact a3.out.few
 have ax:=zC ak.out;rw[hy]at ax;have bf:zdM [(⟨S,3,none⟩,.slice G n.bytes.length F),(⟨S,6,none⟩,P)] (o.drew.alloc (Obj.cells #[.int .u8 y] 5)):=Cells.step ((zJ o.drew.heap.size o.drew).alloc (zF _) _) av;have bN:=yW o.heap.size o;have aF:Below o o (o.drew.alloc (Obj.cells #[.int .u8 y] 5)):=zA bN ((zJ o.drew.heap.size o.drew).alloc (zF _) _);have C:=T9.step aF;have bI:Rd (o.drew.alloc (Obj.cells #[.int .u8 y] 5)) (some ⟨o,0,none⟩) [.int .u8 y]:=Rd.new o.drew [.int .u8 y] 5;refine zbF 18 19 4 [(.p,[true,true,true,true,true,true]),(.r,[false,false,false,false,false,false,true]),(.p,[false,false,false,false,false,false,false,true,true,true,true]),(.r,[false,false,false,false,false,false,false,false,false,false,false,true]),(.p,[false,false,false,false,false,false,false,false,false,false,false,false,true]),(.e,[false,false,false,false,false,false,false,false,false,false,false,false,false,true]),(.e,[false,false,false,false,false,false,false,false,false,false,false,false,false,false,true]),(.p,[false,false,false,false,false,false,false,false,false,false,false,false,false,false,false,true,true,true]),(.l,[false,false,false,false,false,false,false,false,false,false,false,false,false,false,false,false,false,false,true])] _ _ (zdM [(⟨S,3,none⟩,.slice G n.bytes.length F),(⟨S,6,none⟩,P)]) zk (zU 19 _).symm zk zk zk zk (av) (fun Y Q4 F4 hY hF=> ?_);simp only[zeJ,lfc,lfn,ltc,ltz,ldc,ldz,zdY,zcV,zfO,lmc,lmn,lca,lna,lan];repeat first|refine muP ?_|refine muR ?_
 refine muV (bf) ?_;refine ztR (.tmp 86) (.tmp 93) 38 5 1 1 _ S zeL _ n.bytes.length (Bts n.bytes) (some ⟨o,0,none⟩) 1 1 [.int .u8 y] (by rw[hY];rfl) rfl rfl rfl rfl (by intro u hu;rw[List.mem_singleton.1 hu];rfl) by5 om C.ob bI (by have:=C.blk.lt;omega) ?_;intro l j ae bK ag;have bU:Below S o ae:=Below.grown (aF.mono (by have:=T9.blk.lt;omega)) ag (by have:=C.blk.lt;omega) (fun k e=>(C.ob.lt k e).1);have S11:=C.blk.grownO C.ob by2 ag;have aH:=C.oh.grownO C.ob by2 ag;have aB:=C.oc.grownO C.ob by2 ag;have br:=(R9.step aF).grownO C.ob by2 ag;refine⟨⟨S11.cell 3,S11.cell 6,zT⟩,?_⟩;simp only[zvF];have z3:ae.cell? ⟨S,3,none⟩=some (.slice G n.bytes.length F):=S11.cell 3;have z6:ae.cell? ⟨S,6,none⟩=some (.int .i64 P):=S11.cell 6;have f3:=S11.free 3;have f6:=S11.free 6;repeat first|refine muP ?_|refine muR ?_
 refine muL ?_;refine zcG (hF.out _ _ (fun K hK=> ?_));clear hF hY;go_wp2_with fail;refine mok hK ?_;clear hK z3 z6 f3 f6;obtain⟨n2,bJ⟩:∃n2:S12.M,({n with bytes:=n.bytes ++ [y],part:=1}:S12.M)=n2:=⟨_,rfl⟩;have aC:St S S d c {n with bytes:=n.bytes ++ [y],part:=1} ⟨some ⟨d,0,none⟩,g,l,j,some ⟨c,0,none⟩,f⟩ ((ae.setCell ⟨S,3,none⟩ (.slice l (n.bytes.length+1) j)).setCell ⟨S,6,none⟩ (.int .i64 1)):=by
  have el:(n.bytes ++ [y]).length=n.bytes.length+1:=by simp
  refine⟨?_,rfl,rfl,zF _,T9.hh,T9.hc,(aH.other S 3 _ (aH.ne S11 by2)).other S 6 _ (aH.ne S11 by2),(aB.other S 3 _ (aB.ne S11 by2)).other S 6 _ (aB.ne S11 by2),?_⟩
  ·have:=(S11.set 3 (.slice l (n.bytes.length+1) j)).set 6 (.int .i64 1);unfold yX;rw[show({n with bytes:=n.bytes ++ [y],part:=1}:S12.M).bytes.length=n.bytes.length+1 from el];exact this
  ·rw[show({n with bytes:=n.bytes ++ [y],part:=1}:S12.M).bytes.length=n.bytes.length+1 from el,show Bts ({n with bytes:=n.bytes ++ [y],part:=1}:S12.M).bytes=Bts n.bytes ++ [.int .u8 y]from Bts_app _ _];exact zfD (zfD bK S11 by2) (S11.set 3 _) by2
 have aQ:Below w w ((ae.setCell ⟨S,3,none⟩ (.slice l (n.bytes.length+1) j)).setCell ⟨S,6,none⟩ (.int .i64 1)):=((ba.trans (bU.mono (show w.heap.size≤S by omega))).setCell (p:=⟨S,3,none⟩) (show w.heap.size≤S by omega) _).setCell (p:=⟨S,6,none⟩) (show w.heap.size≤S by omega) _;have aM:=(br.other S 3 (.slice l (n.bytes.length+1) j) V).other S 6 (.int .i64 1) V;rw[bJ]at aC E ax;have aj:S12.Byt (S12.search (S12.extend n2)).bytes:=by rw[S12.search_bytes];exact E.out.byt
 obtain⟨bC,bS⟩:=zvJ (((ae.setCell ⟨S,3,none⟩ (.slice l (n.bytes.length+1) j)).setCell ⟨S,6,none⟩ (.int .i64 1)));rw[bS]at aC aQ aM⊢;clear bS bf bN aF C bI T9 ba R9 av bU S11 aH aB br bK ag bJ bj ck b7 cl dl b2 hy bG;have ak:=ax;clear ax;go_wp2_with fail;obtain⟨cr,bO,bb,aI⟩:=al1 bC [.func (.func 210) #[.pointer (some ⟨S,0,none⟩)] #[],.func (.func 211) #[.pointer (some ⟨S,0,none⟩)] #[]] 1;have bk:=aC.step aI;have bg:=aM.step aI;have bt:=zA aQ aI;rw[bO];clear bO aC aM aQ aI;obtain⟨Fb,bu⟩:=zvJ bC.heap.size;rw[bu]at bb⊢;clear bu
 go_loopw [10,107] (fun _ i wr=>∃k:Nat,k≤2∧i = .int .i64 (k:Int)∧St S S d c (S12.stepN n2 k) ⟨some ⟨d,0,none⟩,g,l,j,some ⟨c,0,none⟩,f⟩ wr∧Below w w wr∧
  Blk wr (w.heap.size+1) [.int .i64 0,.int .i64 0,.slice none 0 0,.slice none 0 0,.int .i64 0,.int .i64 0,.int .i64 0,.int .i64 0,.slice none 0 0] 43∧
  Blk wr Fb [.func (.func 210) #[.pointer (some ⟨S,0,none⟩)] #[],.func (.func 211) #[.pointer (some ⟨S,0,none⟩)] #[]] 1) (fun _ i _=>2-(intOf i).toNat)
 case atStart=>exact⟨0,by omega,rfl,bk,bt,bg,bb⟩
 case round=>
  obtain⟨k,hk,rfl,Tk,aW,t,Fk⟩:=hrel;clear bk bg bb bt;obtain⟨g0,g1⟩:=Fk.c2
  match k,hk with
  | 0,_=>
    go_wp2_with fail;refine(extend12_any S S d c n2 _ wr Tk E.out.len E.out.at_).mono ?_;rintro e wx ⟨rfl,Tx,ao,aV⟩;have aX:=aW.trans (ao.mono (show w.heap.size≤S by omega));have Rx:=t.below ao om;have Fx:=aV _ _ Fk;go_wp2_with fail;go_roundw
    case rel=>exact⟨1,by omega,rfl,Tx,aX,Rx,Fx⟩
    case measure=>simp[intOf]
  | 1,_=>
    go_wp2_with fail;refine(search12_any S S d c (S12.extend n2) _ wr Tk E.out.bits E.out.least E.out.few E.out.byt E.out.heads E.out.head).mono ?_;rintro e wx ⟨rfl,Tx,ao,aV⟩;have aX:=aW.trans (ao.mono (show w.heap.size≤S by omega));have Rx:=t.below ao om;have Fx:=aV _ _ Fk;go_wp2_with fail;go_roundw
    case rel=>exact⟨2,by omega,rfl,Tx,aX,Rx,Fx⟩
    case measure=>simp[intOf]
  | 2,_=>
    have aE:St S S d c (S12.search (S12.extend n2)) ⟨some ⟨d,0,none⟩,g,l,j,some ⟨c,0,none⟩,f⟩ wr:=Tk;clear Tk g0 g1 Fk E;obtain⟨a,bn⟩:=zvJ (S12.search (S12.extend n2));rw[bn]at aE ak aj;clear bn;have s:St S S d c {a with bit:=2} (⟨some ⟨d,0,none⟩,g,l,j,some ⟨c,0,none⟩,f⟩:Pl) (wr.setCell ⟨S,7,none⟩ (.int .i64 2)):=(aE).put 7 _ rfl rfl rfl rfl;have a5:=(aW).setCell (p:=⟨S,7,none⟩) (show w.heap.size≤S by omega) (.int .i64 2);have bd:=(t).other S 7 (.int .i64 2) V;obtain⟨I,L,O,Q,N,R,M,T,J⟩:=(aE).blk.nine;have f7:=(aE).blk.free 7;have ar:¬S=w.heap.size+1:=fun e=>V e.symm;have lS:=s.blk.lt;by_cases af:0<(a).len
    ·have z:mR = {a with bit:=S12.expI ((a).bytes.getD (a).at_.toNat 0) (a).part}:=by rw[ak.out];unfold S12.expect;rw[zQ af]
     have H:S12.WF {a with bit:=S12.expI ((a).bytes.getD (a).at_.toNat 0) (a).part}:=by rw[←z];exact a6.out
     have aY:=H.Mat (show(a).len≠0 by omega);have cg:(a).len≤(a).at_∧(a).at_≤((a).bytes.length:Int)-1:=aY.at_;have b9:1≤(a).len∧(a).len≤255:=aY.len;have a8:(a).heads.length≤65536:=H.sizes.1;have aR:(a).bytes.length≤65536:=H.sizes.2.1;have a9:(a).ctrs.length≤65536:=H.sizes.2.2;obtain⟨q,hq⟩:∃q:Nat,(a).at_=q:=⟨(a).at_.toNat,by omega⟩;have cd:0≤(a).bytes.getD q 0:=aj.get q;have ce:((a).bytes.getD q 0).toNat<256:=aj.at q;obtain⟨Z,az⟩:∃Z:Nat,(a).bytes.getD q 0=Z:=⟨((a).bytes.getD q 0).toNat,(zgO cd).symm⟩;have b4:Z<256:=by rw[az]at ce;omega
     obtain⟨gB,oB,eB,bT⟩:=ziY (Rd.of_owns s.ob) (i:=q) (show q<(a).bytes.length by omega);have au:=bT q (show q<(a).bytes.length by omega);have al:=s.apart (show w.heap.size+1<S by omega);have a1:=zC (s.far.mono (show w.heap.size≤S by omega));simp only at eB au;rw[show(a).bytes.getD q 0=(Z:Int)from az]at au;have cn:¬S=gB:=fun e=>zaS s.ob s.blk by2 (by simp only;rw[eB,e];rfl)
     have aw:zdM [(⟨S,3,none⟩,.slice (some ⟨gB,oB,none⟩) (a).bytes.length ((⟨some ⟨d,0,none⟩,g,l,j,some ⟨c,0,none⟩,f⟩:Pl)).cb),(⟨S,4,none⟩,q),(⟨S,6,none⟩,.int .i64 (a).part),(⟨gB,oB+q,none⟩,.int .u8 (Z:Int))] (wr.setCell ⟨S,7,none⟩ (.int .i64 2)):=
      ⟨by rw[←eB];exact s.blk.cell 3,by rw[←hq];exact s.blk.cell 4,s.blk.cell 6,au,zT⟩
     have aP:=zC fun W=>zgN Z b4 (a).part W;obtain⟨bv,a7⟩:=zvJ (S12.optN (S12.exp Z (a).part));have bw:S12.expI ((a).bytes.getD (a).at_.toNat 0) (a).part=bv:=by rw[S12.expI_eq,hq,Int.toNat_natCast,az,Int.toNat_natCast,a7]
     rw[a7]at aP;rw[bw]at z;have aZ:=zC z;have cp:q<(a).bytes.length:=by omega
     clear aY cg b9 H a7 bw az bT au z hq;have bM:decide (0<(a).len)=true:=zO af;clear af;obtain⟨cx,bl⟩:=zvJ ((S12.exp Z (a).part).isSome);rw[bl]at aP;clear bl;go_wp2_with fail;obtain⟨bm,bW⟩:=zvJ (wr.setCell ⟨S,7,none⟩ (.int .i64 2));rw[bW]at s a5 bd aw⊢;clear bW I L O Q N R M T J f7 bM;refine zvL 26 0 [(U,0,18),(zvE,18,1),(U,19,6),(zvE,25,1)] (zdM [(⟨S,3,none⟩,.slice (some ⟨gB,oB,none⟩) (a).bytes.length ((⟨some ⟨d,0,none⟩,g,l,j,some ⟨c,0,none⟩,f⟩:Pl)).cb),(⟨S,4,none⟩,q),(⟨S,6,none⟩,.int .i64 (a).part),(⟨gB,oB+q,none⟩,.int .u8 (Z:Int))]) (aw) fun Y Q4 F4 hY hF=> ?_;repeat refine mrh ?_
     refine mcl ?_;refine(aP.out _).mono ?_;rintro e ac ⟨rfl,b3⟩;have aA:=zA (yW bm.heap.size bm) b3;have ah:=Cells.step aA aw;refine⟨_,rfl,ah,?_⟩;simp only[zvF];repeat refine mrh ?_
     have aJ:=s.step aA;have y7:ac.cell? ⟨S,7,none⟩=some (.int .i64 2):=aJ.blk.cell 7;have f7:=aJ.blk.free 7;have co:¬(S=S∧7=3):=by omega
     refine mst ((show zdM _ _ from⟨(World.cell?_setCell_other ac ⟨S,7,none⟩ ⟨S,3,none⟩ _ by1).trans ah.1,(World.cell?_setCell_other ac ⟨S,7,none⟩ ⟨S,4,none⟩ _ by1).trans ah.2.1,(World.cell?_setCell_other ac ⟨S,7,none⟩ ⟨S,6,none⟩ _ by1).trans ah.2.2.1,(zaM ac S 7 _ _ _ cn).trans ah.2.2.2.1,zT⟩)) ?_;refine mdn hF fun K hK=> ?_;clear hF hY;have bc:St S S d c {a with bit:=bv} (⟨some ⟨d,0,none⟩,g,l,j,some ⟨c,0,none⟩,f⟩:Pl) (ac.setCell ⟨S,7,none⟩ (.int .i64 bv)):=aJ.put 7 _ rfl rfl rfl rfl;have bV:=(zA a5 aA).setCell (p:=⟨S,7,none⟩) (show w.heap.size≤S by omega) (.int .i64 bv);have A:=(bd.step aA).other S 7 (.int .i64 bv) V;go_wp2_with fail;refine mok hK ?_;clear hK y7 f7 ah aw aJ;obtain⟨cs,bX⟩:=zvJ (ac.setCell ⟨S,7,none⟩ (.int .i64 bv));rw[bX]at bc bV A⊢;clear bX;have ai:=bc.mis aj a8 aR a9;obtain⟨I,L,O,Q,N,R,M,T,J⟩:=bc.blk.nine;obtain⟨z0,z1,z2,z3,z4,z5,z6,z7,z8⟩:=A.nine;have q0:=A.free 0;have q1:=A.free 1;have q2:=A.free 2;have q3:=A.free 3;have q4:=A.free 4;have q5:=A.free 5;have q6:=A.free 6;have q7:=A.free 7;have q8:=A.free 8;obtain⟨Hm,Ha⟩:=zh2 ai al;clear ai al;have z:=aZ.out;subst z;obtain⟨y0,y1,y2,y3,y4,y5,y6,y7,y8⟩:=(A.put9 (.int .i64 (a).bits) (.int .i64 (a).least) (.slice ((⟨some ⟨d,0,none⟩,g,l,j,some ⟨c,0,none⟩,f⟩:Pl)).ah (a).heads.length ((⟨some ⟨d,0,none⟩,g,l,j,some ⟨c,0,none⟩,f⟩:Pl)).ch) (.slice (some ⟨gB,oB,none⟩) (a).bytes.length ((⟨some ⟨d,0,none⟩,g,l,j,some ⟨c,0,none⟩,f⟩:Pl)).cb) (.int .i64 (a).at_) (.int .i64 (a).len) (.int .i64 (a).part) (.int .i64 bv) (.slice ((⟨some ⟨d,0,none⟩,g,l,j,some ⟨c,0,none⟩,f⟩:Pl)).ac (a).ctrs.length ((⟨some ⟨d,0,none⟩,g,l,j,some ⟨c,0,none⟩,f⟩:Pl)).cc)).nine;go_wp2_with (exact bodyPost_ret (v:=.tuple #[MV {a with bit:=bv} (⟨some ⟨d,0,none⟩,g,l,j,some ⟨c,0,none⟩,f⟩:Pl),.int .i64 0]) (by simp[results,Tryz.results204,go_sem,MV,yX,y0,y1,y2,y3,y4,y5,y6,y7,y8,eB]) rfl ⟨(⟨some ⟨d,0,none⟩,g,l,j,some ⟨c,0,none⟩,f⟩:Pl),rfl,Hm.out.put9 Ha.out.1 Ha.out.2.1 Ha.out.2.2 _ _ _ _ _ _ _ _ _,a1.out,zeN bV (Nat.le_succ _) _ _ _ _ _ _ _ _ _⟩)
    ·have z:mR = {a with bit:=2}:=by rw[ak.out];unfold S12.expect;rw[zG af]
     have H:S12.WF {a with bit:=2}:=by rw[←z];exact a6.out
     have a8:(a).heads.length≤65536:=H.sizes.1;have aR:(a).bytes.length≤65536:=H.sizes.2.1;have a9:(a).ctrs.length≤65536:=H.sizes.2.2;have ai:=s.mis aj a8 aR a9;have al:=s.apart (show w.heap.size+1<S by omega);have a1:=zC (s.far.mono (show w.heap.size≤S by omega));have bM:decide (0<(a).len)=false:=zL af;obtain⟨z0,z1,z2,z3,z4,z5,z6,z7,z8⟩:=(t).nine;have q0:=(t).free 0;have q1:=(t).free 1;have q2:=(t).free 2;have q3:=(t).free 3;have q4:=(t).free 4;have q5:=(t).free 5;have q6:=(t).free 6;have q7:=(t).free 7;have q8:=(t).free 8;obtain⟨Hm,Ha,aZ⟩:=zh3 ai al z;clear ai al z H af;have z:=aZ.out;subst z;obtain⟨y0,y1,y2,y3,y4,y5,y6,y7,y8⟩:=(bd.put9 (.int .i64 (a).bits) (.int .i64 (a).least) (.slice ((⟨some ⟨d,0,none⟩,g,l,j,some ⟨c,0,none⟩,f⟩:Pl)).ah (a).heads.length ((⟨some ⟨d,0,none⟩,g,l,j,some ⟨c,0,none⟩,f⟩:Pl)).ch) (.slice ((⟨some ⟨d,0,none⟩,g,l,j,some ⟨c,0,none⟩,f⟩:Pl)).ab (a).bytes.length ((⟨some ⟨d,0,none⟩,g,l,j,some ⟨c,0,none⟩,f⟩:Pl)).cb) (.int .i64 (a).at_) (.int .i64 (a).len) (.int .i64 (a).part) (.int .i64 2) (.slice ((⟨some ⟨d,0,none⟩,g,l,j,some ⟨c,0,none⟩,f⟩:Pl)).ac (a).ctrs.length ((⟨some ⟨d,0,none⟩,g,l,j,some ⟨c,0,none⟩,f⟩:Pl)).cc)).nine;go_wp2_with (exact bodyPost_ret (v:=.tuple #[MV {a with bit:=2} (⟨some ⟨d,0,none⟩,g,l,j,some ⟨c,0,none⟩,f⟩:Pl),.int .i64 0]) (by simp[results,Tryz.results204,go_sem,MV,yX,y0,y1,y2,y3,y4,y5,y6,y7,y8]) rfl ⟨(⟨some ⟨d,0,none⟩,g,l,j,some ⟨c,0,none⟩,f⟩:Pl),rfl,Hm.out.put9 Ha.out.1 Ha.out.2.1 Ha.out.2.2 _ _ _ _ _ _ _ _ _,a1.out,zeN a5 (Nat.le_succ _) _ _ _ _ _ _ _ _ _⟩)
theorem bit12_part(m:S12.M)(p:Pl)(b:Int)(w:World)(hM:MIs m p w)(o:S12.bitE m b=0)(bN:¬128≤m.part) :
 Calls Tryz.prog 204 #[MV m p,b] w fun e w'=>∃p',e = .returned (.tuple #[MV (S12.bitM m b) p',.int .i64 0])∧MIs (S12.bitM m b) p' w'∧Far w.heap.size p'∧Below w w w':=by
 have ad:S12.check m=0:=by
  cases h:decide (S12.check m=0)with
  | true=>exact zbE h
  | false=>unfold S12.bitE at o;rw[zQ (of_decide_eq_false h)]at o;exact o
 have k:=(S12.check_iff m).1 ad;have bz:b=0∨b=1:=by
  unfold S12.bitE at o;rw[zG (by rw[ad];simp)]at o;split at o
  ·cases o
  ·omega
 have bi:¬(128≤m.part∧65536≤m.bytes.length):=by
  unfold S12.bitE at o;rw[zG (by rw[ad];simp),zG om]at o;split at o
  ·cases o
  ·assumption
 have aI:=zC (k.bitM hM.byt bz o);have ag:=zC fun W hW=>zfU m p W hW;rw[ad]at ag;have HW:=zC fun W=>zdO b 0 1 W;rw[show decide (0≤b∧b≤1)=true from zO om]at HW;have aO:0≤m.len:=by
  rcases(S12.matched_iff m).1 k.mat with⟨h,_⟩|h
  ·omega
  ·have:=h.len;omega
 have a3:=zC fun(B S c a:Nat) (p1:Pl) (W:World) (h:St B S c a m p1 W)=>zqS B S c a m p1 b W h k.ctrs k.ctr aO;have O:=k.learn b;have aP:2^m.bits.toNat≤65536:=zcP (n:=2) om (show m.bits.toNat≤16 by have:=k.bits;omega);have aT:1≤m.heads.length:=by rw[k.heads];exact zaJ _
 have aX:m.heads.length≤65536:=by rw[k.heads];exact aP
 have bB:=k.ctrs;have aZ:=k.few;have bl:=zC fun W (h:Rd W p.ah (zaE m.heads))=>ziT m.heads p.ah p.ch W aT aX h;have bn:=zC fun W (h:Rd W p.ab (Bts m.bytes))=>zhS m.bytes p.ab p.cb W aZ h;have bh:=zC fun W (h:Rd W p.ac (Cts m.ctrs))=>zjR m.ctrs p.ac p.cc W om om h;have dc:decide (128≤m.part)=false:=by simp;omega
 obtain⟨bs,HM,av⟩:=zh3 k hM O;have ak:Below w w ((w.alloc (.cells (yX m p).toArray 43)).alloc (.cells #[.int .i64 0,.int .i64 0,.slice none 0 0,.slice none 0 0,.int .i64 0,.int .i64 0,.int .i64 0,.int .i64 0,.slice none 0 0] 43)):=by go_grown
 have A0:Blk ((w.alloc (.cells (yX m p).toArray 43)).alloc (.cells #[.int .i64 0,.int .i64 0,.slice none 0 0,.slice none 0 0,.int .i64 0,.int .i64 0,.int .i64 0,.int .i64 0,.slice none 0 0] 43)) w.heap.size (yX m p) 43:=(Blk.new w _ _).alloc _;have R0:Blk ((w.alloc (.cells (yX m p).toArray 43)).alloc (.cells #[.int .i64 0,.int .i64 0,.slice none 0 0,.slice none 0 0,.int .i64 0,.int .i64 0,.int .i64 0,.int .i64 0,.slice none 0 0] 43)) (w.heap.size+1) [.int .i64 0,.int .i64 0,.slice none 0 0,.slice none 0 0,.int .i64 0,.int .i64 0,.int .i64 0,.int .i64 0,.slice none 0 0] 43:=by
  have h:=Blk.new (w.alloc (.cells (yX m p).toArray 43)) [.int .i64 0,.int .i64 0,.slice none 0 0,.slice none 0 0,.int .i64 0,.int .i64 0,.int .i64 0,.int .i64 0,.slice none 0 0] 43;simpa using h
 clear o ad k hM O aP aT aX bB bi aZ aO;obtain⟨mR,z⟩:=zvJ (S12.bitM m b);rw[z]at aI⊢;have aW:=zC z;clear z;unfold MV at ag;unfold yX at ag A0 R0 ak;show Calls Tryz.prog 204 #[.agg #[m.bits,m.least,.slice p.ah m.heads.length p.ch,.slice p.ab m.bytes.length p.cb,m.at_,m.len,m.part,m.bit,.slice p.ac m.ctrs.length p.cc],b] w _;go_enter Tryz.func204,Tryz.ntmps204;obtain⟨A,D,G,H,F,I,E,J,C⟩:=A0.nine;obtain⟨w0,a6⟩:=zvJ (((w.alloc (.cells #[m.bits,m.least,.slice p.ah m.heads.length p.ch,.slice p.ab m.bytes.length p.cb,m.at_,m.len,m.part,m.bit,.slice p.ac m.ctrs.length p.cc] 43)).alloc (.cells #[.int .i64 0,.int .i64 0,.slice none 0 0,.slice none 0 0,.int .i64 0,.int .i64 0,.int .i64 0,.int .i64 0,.slice none 0 0] 43)));rw[a6]at ak A0 R0 A D G H F I E J C;go_wp2_with fail;refine mnb ak (ag.out _ (HM.out.step ak)) fun w1 aV bt=> ?_;go_wp2_with fail;refine mnb bt (HW.out _) fun w2 ba bp=> ?_;have A2:=(A0.step aV).step ba;have R2:=(R0.step aV).step ba;clear A D G H F I E J C A0 R0 a6;obtain⟨A,D,G,H,F,I,E,J,C⟩:=A2.nine;go_wp2_with fail;obtain⟨S,hS⟩:=zvJ w2.heap.size;obtain⟨w3,au,_,ap⟩:=al1 w2 [m.bits,m.least,.slice p.ah m.heads.length p.ch,.slice p.ab m.bytes.length p.cb,m.at_,m.len,m.part,m.bit,.slice p.ac m.ctrs.length p.cc] 240;have S3:Blk w3 S [m.bits,m.least,.slice p.ah m.heads.length p.ch,.slice p.ab m.bytes.length p.cb,m.at_,m.len,m.part,m.bit,.slice p.ac m.ctrs.length p.cc] 240:=by rw[←au,←hS];exact Blk.new w2 _ _
 have af:=zA bp ap;have A3:=A2.step ap;have R3:=R2.step ap;have bK:w.heap.size+1<S:=by rw[←hS];exact R2.lt
 have aA:zdM [(⟨w,2,none⟩,.slice p.ah m.heads.length p.ch),(⟨w,3,none⟩,.slice p.ab m.bytes.length p.cb),(⟨w,8,none⟩,.slice p.ac m.ctrs.length p.cc)] w3:=⟨A3.cell 2,A3.cell 3,A3.cell 8,zT⟩;rw[au,hS];clear A D G H F I E J C A2 R2 au ap dc;refine zvL 24 0 [(U,0,5),(U,6,2),(U,9,2),(zvE,5,1),(zvE,8,1),(zvE,11,1),(U,12,3),(zvE,15,1),(U,16,3),(zvE,19,1),(U,20,3),(zvE,23,1)] (zdM [(⟨w,2,none⟩,.slice p.ah m.heads.length p.ch),(⟨w,3,none⟩,.slice p.ab m.bytes.length p.cb),(⟨w,8,none⟩,.slice p.ac m.ctrs.length p.cc)]) (aA) fun Y Q4 F4 hY hF=> ?_;repeat refine mrh ?_
 have ah:=yW w3.heap.size w3;refine mcl ?_;refine(bl.out _ ((HM.out.step af).step ah).rdh).mono ?_;rintro e w4 ⟨c,j,rfl,bm,a4,a1⟩;have aE:=zA ah a1;have az:=Cells.step aE aA;refine⟨_,rfl,az,?_⟩;simp only[zvF];refine mcl ?_;refine(bn.out _ ((HM.out.step af).step aE).rdb).mono ?_;rintro e w5 ⟨f,d,rfl,a2,ao⟩;have a5:=zA aE ao;have aB:=Cells.step ao az;refine⟨_,rfl,aB,?_⟩;simp only[zvF];refine mcl ?_;refine(bh.out _ ((HM.out.step af).step a5).rdc).mono ?_;rintro e w6 ⟨a,g,rfl,bf,a9,ar⟩;have aG:=zA a5 ar;have ae:=Cells.step ar aB;refine⟨_,rfl,ae,?_⟩;simp only[zvF];have t:=S3.step aG;have z2:=t.cell 2;have z3:=t.cell 3;have z8:=t.cell 8;have g2:=t.free 2;have g3:=t.free 3;have g8:=t.free 8;simp only[zvH]at z2 z3 z8;have bM:=S3.lt;have aw:¬S=w.heap.size:=by omega
 have N:∀(X:World) (i:Nat) (v:Value),zdM [(⟨w,2,none⟩,.slice p.ah m.heads.length p.ch),(⟨w,3,none⟩,.slice p.ab m.bytes.length p.cb),(⟨w,8,none⟩,.slice p.ac m.ctrs.length p.cc)] X→
  zdM [(⟨w,2,none⟩,.slice p.ah m.heads.length p.ch),(⟨w,3,none⟩,.slice p.ab m.bytes.length p.cb),(⟨w,8,none⟩,.slice p.ac m.ctrs.length p.cc)] (X.setCell ⟨S,i,none⟩ v):=fun X i v h=>
  ⟨(zaM X S i _ _ v aw).trans h.1,(zaM X S i _ _ v aw).trans h.2.1,(zaM X S i _ _ v aw).trans h.2.2.1,zT⟩
 repeat refine mrh ?_
 refine mst (N _ _ _ ae) ?_;repeat refine mrh ?_
 refine mst (N _ _ _ (N _ _ _ ae)) ?_;repeat refine mrh ?_
 refine mst (N _ _ _ (N _ _ _ (N _ _ _ ae))) ?_;refine mdn hF fun K hK=> ?_;clear hF hY;have T7:St S S c a m ⟨some ⟨c,0,none⟩,j,f,d,some ⟨a,0,none⟩,g⟩ (((w6.setCell ⟨S,2,none⟩ (.slice (some ⟨c,0,none⟩) m.heads.length j)).setCell ⟨S,3,none⟩ (.slice f m.bytes.length d)).setCell ⟨S,8,none⟩ (.slice (some ⟨a,0,none⟩) m.ctrs.length g)):=by
  have bg:=(a4.step ao).step ar;have hd:=ah.size;have h4:=a1.size;have h5:=ao.size;have d1:¬c=S:=by omega
  have d2:¬a=S:=by omega
  exact⟨((t.set 2 _).set 3 _).set 8 _,rfl,rfl,zF _,by omega,by omega,((bg.other S 2 _ d1).other S 3 _ d1).other S 8 _ d1,((a9.other S 2 _ d2).other S 3 _ d2).other S 8 _ d2,
   zfD (zfD (zfD (owns_base (yM (B:=0) a2 ar) om) t by2) (t.set 2 _) by2) ((t.set 2 _).set 3 _) by2⟩
 have aS:Below w w (((w6.setCell ⟨S,2,none⟩ (.slice (some ⟨c,0,none⟩) m.heads.length j)).setCell ⟨S,3,none⟩ (.slice f m.bytes.length d)).setCell ⟨S,8,none⟩ (.slice (some ⟨a,0,none⟩) m.ctrs.length g)):=
  (((zA af aG).setCell (p:=⟨S,2,none⟩) (show w.heap.size≤S by omega) _).setCell (p:=⟨S,3,none⟩) (show w.heap.size≤S by omega) _).setCell (p:=⟨S,8,none⟩) (show w.heap.size≤S by omega) _
 have Q:¬w.heap.size+1=S:=by omega
 have R7:=(((R3.step aG).other S 2 (.slice (some ⟨c,0,none⟩) m.heads.length j) Q).other S 3 (.slice f m.bytes.length d) Q).other S 8 (.slice (some ⟨a,0,none⟩) m.ctrs.length g) Q;go_wp2_with fail;refine mok hK ?_;clear hK N aA az aB ae z2 z3 z8 g2 g3 g8 a4 a2 a9 bm bf A3 R3 S3 t;obtain⟨w7,a8⟩:=zvJ ((((w6.setCell ⟨S,2,none⟩ (.slice (some ⟨c,0,none⟩) m.heads.length j)).setCell ⟨S,3,none⟩ (.slice f m.bytes.length d)).setCell ⟨S,8,none⟩ (.slice (some ⟨a,0,none⟩) m.ctrs.length g)));rw[a8]at T7 aS R7⊢;clear a8;go_wp2_with fail;refine(a3.out S S c a _ _ T7).mono ?_;rintro e w8 ⟨rfl,T8,a0⟩;have bx:=aS.trans (a0.mono (show w.heap.size≤S by omega));have R8:=R7.below a0 om;obtain⟨n,hn⟩:=zvJ (S12.learn m b);rw[hn]at T8 av;have k:=bs.out;have O:=av.out;have z:mR=S12.expect (S12.take n (2*n.part+b)):=by rw[←aW.out];unfold S12.bitM;rw[hn]
 obtain⟨P,hP⟩:=zvJ (2*n.part+b);have bF:1≤n.part∧n.part≤255:=by rw[O.part];exact k.part
 have bJ:2≤P∧P≤511:=by omega
 have bG:P≤255:=by have:=O.part;omega
 have bI:decide (255<P)=false:=by simp;omega
 rw[hP]at z;have ht:S12.take n P = {n with part:=P}:=by unfold S12.take;rw[zG om]
 rw[ht]at z;have aU:=zC z;have T9:St S S c a {n with part:=P} ⟨some ⟨c,0,none⟩,j,f,d,some ⟨a,0,none⟩,g⟩ (w8.setCell ⟨S,6,none⟩ (.int .i64 P)):=T8.put 6 _ rfl rfl rfl rfl;have bA:=bx.setCell (p:=⟨S,6,none⟩) (show w.heap.size≤S by omega) (.int .i64 P);have u:=R8.other S 6 (.int .i64 P) Q;obtain⟨A,D,G,H,F,I,E,J,C⟩:=T8.blk.nine;have f6:=T8.blk.free 6;clear z ht k a3 aW;have bu:=zC O;clear av O;have an:S12.Byt n.bytes:=by rw[bu.out.bytes];exact HM.out.byt
 have l:St S S c a {({n with part:=P}:S12.M)with bit:=2} (⟨some ⟨c,0,none⟩,j,f,d,some ⟨a,0,none⟩,g⟩:Pl) ((w8.setCell ⟨S,6,none⟩ (.int .i64 P)).setCell ⟨S,7,none⟩ (.int .i64 2)):=(T9).put 7 _ rfl rfl rfl rfl;have aH:=(bA).setCell (p:=⟨S,7,none⟩) (show w.heap.size≤S by omega) (.int .i64 2);have aN:=(u).other S 7 (.int .i64 2) Q;obtain⟨A,D,G,H,F,I,E,J,C⟩:=(T9).blk.nine;have f7:=(T9).blk.free 7;have ah:¬S=w.heap.size+1:=fun e=>Q e.symm;have lS:=l.blk.lt;by_cases T:0<(({n with part:=P}:S12.M)).len
 ·have r:mR = {({n with part:=P}:S12.M)with bit:=S12.expI ((({n with part:=P}:S12.M)).bytes.getD (({n with part:=P}:S12.M)).at_.toNat 0) (({n with part:=P}:S12.M)).part}:=by rw[aU.out];unfold S12.expect;rw[zQ T]
  have x:S12.WF {({n with part:=P}:S12.M)with bit:=S12.expI ((({n with part:=P}:S12.M)).bytes.getD (({n with part:=P}:S12.M)).at_.toNat 0) (({n with part:=P}:S12.M)).part}:=by rw[←r];exact aI.out
  have aC:=x.Mat (show(({n with part:=P}:S12.M)).len≠0 by omega);have bw:(({n with part:=P}:S12.M)).len≤(({n with part:=P}:S12.M)).at_∧(({n with part:=P}:S12.M)).at_≤((({n with part:=P}:S12.M)).bytes.length:Int)-1:=aC.at_;have bo:1≤(({n with part:=P}:S12.M)).len∧(({n with part:=P}:S12.M)).len≤255:=aC.len;have aK:(({n with part:=P}:S12.M)).heads.length≤65536:=x.sizes.1;have ay:(({n with part:=P}:S12.M)).bytes.length≤65536:=x.sizes.2.1;have aL:(({n with part:=P}:S12.M)).ctrs.length≤65536:=x.sizes.2.2;obtain⟨q,hq⟩:∃q:Nat,(({n with part:=P}:S12.M)).at_=q:=⟨(({n with part:=P}:S12.M)).at_.toNat,by omega⟩;have bq:0≤(({n with part:=P}:S12.M)).bytes.getD q 0:=an.get q;have br:((({n with part:=P}:S12.M)).bytes.getD q 0).toNat<256:=an.at q;obtain⟨y,al⟩:∃y:Nat,(({n with part:=P}:S12.M)).bytes.getD q 0=y:=⟨((({n with part:=P}:S12.M)).bytes.getD q 0).toNat,(zgO bq).symm⟩;have bk:y<256:=by rw[al]at br;omega
  obtain⟨Z,oB,eB,bb⟩:=ziY (Rd.of_owns l.ob) (i:=q) (show q<(({n with part:=P}:S12.M)).bytes.length by omega);have ai:=bb q (show q<(({n with part:=P}:S12.M)).bytes.length by omega);have ac:=l.apart (show w.heap.size+1<S by omega);have aF:=zC (l.far.mono (show w.heap.size≤S by omega));simp only at eB ai;rw[show(({n with part:=P}:S12.M)).bytes.getD q 0=(y:Int)from al]at ai;have bC:¬S=Z:=fun e=>zaS l.ob l.blk by2 (by simp only;rw[eB,e];rfl)
  have aj:zdM [(⟨S,3,none⟩,.slice (some ⟨Z,oB,none⟩) (({n with part:=P}:S12.M)).bytes.length ((⟨some ⟨c,0,none⟩,j,f,d,some ⟨a,0,none⟩,g⟩:Pl)).cb),(⟨S,4,none⟩,q),(⟨S,6,none⟩,.int .i64 (({n with part:=P}:S12.M)).part),(⟨Z,oB+q,none⟩,.int .u8 (y:Int))] ((w8.setCell ⟨S,6,none⟩ (.int .i64 P)).setCell ⟨S,7,none⟩ (.int .i64 2)):=
   ⟨by rw[←eB];exact l.blk.cell 3,by rw[←hq];exact l.blk.cell 4,l.blk.cell 6,ai,zT⟩
  have ax:=zC fun W=>zgN y bk (({n with part:=P}:S12.M)).part W;obtain⟨L,aJ⟩:=zvJ (S12.optN (S12.exp y (({n with part:=P}:S12.M)).part));have aY:S12.expI ((({n with part:=P}:S12.M)).bytes.getD (({n with part:=P}:S12.M)).at_.toNat 0) (({n with part:=P}:S12.M)).part=L:=by rw[S12.expI_eq,hq,Int.toNat_natCast,al,Int.toNat_natCast,aJ]
  rw[aJ]at ax;rw[aY]at r;have aD:=zC r;have bE:q<(({n with part:=P}:S12.M)).bytes.length:=by omega
  clear aC bw bo x aJ aY al bb ai r hq;have a7:decide (0<(({n with part:=P}:S12.M)).len)=true:=zO T;clear T;obtain⟨bL,aQ⟩:=zvJ ((S12.exp y (({n with part:=P}:S12.M)).part).isSome);rw[aQ]at ax;clear aQ;go_wp2_with fail;obtain⟨aR,bd⟩:=zvJ ((w8.setCell ⟨S,6,none⟩ (.int .i64 P)).setCell ⟨S,7,none⟩ (.int .i64 2));rw[bd]at l aH aN aj⊢;clear bd A D G H F I E J C f7 a7;refine zvL 26 0 [(U,0,18),(zvE,18,1),(U,19,6),(zvE,25,1)] (zdM [(⟨S,3,none⟩,.slice (some ⟨Z,oB,none⟩) (({n with part:=P}:S12.M)).bytes.length ((⟨some ⟨c,0,none⟩,j,f,d,some ⟨a,0,none⟩,g⟩:Pl)).cb),(⟨S,4,none⟩,q),(⟨S,6,none⟩,.int .i64 (({n with part:=P}:S12.M)).part),(⟨Z,oB+q,none⟩,.int .u8 (y:Int))]) (aj) fun Y Q4 F4 hY hF=> ?_;repeat refine mrh ?_
  refine mcl ?_;refine(ax.out _).mono ?_;rintro e M ⟨rfl,bj⟩;have am:=zA (yW aR.heap.size aR) bj;have V:=Cells.step am aj;refine⟨_,rfl,V,?_⟩;simp only[zvF];repeat refine mrh ?_
  have aq:=l.step am;have y7:M.cell? ⟨S,7,none⟩=some (.int .i64 2):=aq.blk.cell 7;have f7:=aq.blk.free 7;have bD:¬(S=S∧7=3):=by omega
  refine mst ((show zdM _ _ from⟨(World.cell?_setCell_other M ⟨S,7,none⟩ ⟨S,3,none⟩ _ by1).trans V.1,(World.cell?_setCell_other M ⟨S,7,none⟩ ⟨S,4,none⟩ _ by1).trans V.2.1,(World.cell?_setCell_other M ⟨S,7,none⟩ ⟨S,6,none⟩ _ by1).trans V.2.2.1,(zaM M S 7 _ _ _ bC).trans V.2.2.2.1,zT⟩)) ?_;refine mdn hF fun K hK=> ?_;clear hF hY;have aM:St S S c a {({n with part:=P}:S12.M)with bit:=L} (⟨some ⟨c,0,none⟩,j,f,d,some ⟨a,0,none⟩,g⟩:Pl) (M.setCell ⟨S,7,none⟩ (.int .i64 L)):=aq.put 7 _ rfl rfl rfl rfl;have bc:=(zA aH am).setCell (p:=⟨S,7,none⟩) (show w.heap.size≤S by omega) (.int .i64 L);have s:=(aN.step am).other S 7 (.int .i64 L) Q;go_wp2_with fail;refine mok hK ?_;clear hK y7 f7 V aj aq;obtain⟨bH,be⟩:=zvJ (M.setCell ⟨S,7,none⟩ (.int .i64 L));rw[be]at aM bc s⊢;clear be;have aa:=aM.mis an aK ay aL;obtain⟨A,D,G,H,F,I,E,J,C⟩:=aM.blk.nine;obtain⟨z0,z1,z2,z3,z4,z5,z6,z7,z8⟩:=s.nine;have q0:=s.free 0;have q1:=s.free 1;have q2:=s.free 2;have q3:=s.free 3;have q4:=s.free 4;have q5:=s.free 5;have q6:=s.free 6;have q7:=s.free 7;have q8:=s.free 8;obtain⟨Hm,R⟩:=zh2 aa ac;clear aa ac;have r:=aD.out;subst r;obtain⟨y0,y1,y2,y3,y4,y5,y6,y7,y8⟩:=(s.put9 (.int .i64 (({n with part:=P}:S12.M)).bits) (.int .i64 (({n with part:=P}:S12.M)).least) (.slice ((⟨some ⟨c,0,none⟩,j,f,d,some ⟨a,0,none⟩,g⟩:Pl)).ah (({n with part:=P}:S12.M)).heads.length ((⟨some ⟨c,0,none⟩,j,f,d,some ⟨a,0,none⟩,g⟩:Pl)).ch) (.slice (some ⟨Z,oB,none⟩) (({n with part:=P}:S12.M)).bytes.length ((⟨some ⟨c,0,none⟩,j,f,d,some ⟨a,0,none⟩,g⟩:Pl)).cb) (.int .i64 (({n with part:=P}:S12.M)).at_) (.int .i64 (({n with part:=P}:S12.M)).len) (.int .i64 (({n with part:=P}:S12.M)).part) (.int .i64 L) (.slice ((⟨some ⟨c,0,none⟩,j,f,d,some ⟨a,0,none⟩,g⟩:Pl)).ac (({n with part:=P}:S12.M)).ctrs.length ((⟨some ⟨c,0,none⟩,j,f,d,some ⟨a,0,none⟩,g⟩:Pl)).cc)).nine;go_wp2_with (exact bodyPost_ret (v:=.tuple #[MV {({n with part:=P}:S12.M)with bit:=L} (⟨some ⟨c,0,none⟩,j,f,d,some ⟨a,0,none⟩,g⟩:Pl),.int .i64 0]) (by simp[results,Tryz.results204,go_sem,MV,yX,y0,y1,y2,y3,y4,y5,y6,y7,y8,eB]) rfl ⟨(⟨some ⟨c,0,none⟩,j,f,d,some ⟨a,0,none⟩,g⟩:Pl),rfl,Hm.out.put9 R.out.1 R.out.2.1 R.out.2.2 _ _ _ _ _ _ _ _ _,aF.out,zeN bc (Nat.le_succ _) _ _ _ _ _ _ _ _ _⟩)
 ·have r:mR = {({n with part:=P}:S12.M)with bit:=2}:=by rw[aU.out];unfold S12.expect;rw[zG T]
  have x:S12.WF {({n with part:=P}:S12.M)with bit:=2}:=by rw[←r];exact aI.out
  have aK:(({n with part:=P}:S12.M)).heads.length≤65536:=x.sizes.1;have ay:(({n with part:=P}:S12.M)).bytes.length≤65536:=x.sizes.2.1;have aL:(({n with part:=P}:S12.M)).ctrs.length≤65536:=x.sizes.2.2;have aa:=l.mis an aK ay aL;have ac:=l.apart (show w.heap.size+1<S by omega);have aF:=zC (l.far.mono (show w.heap.size≤S by omega));have a7:decide (0<(({n with part:=P}:S12.M)).len)=false:=zL T;obtain⟨z0,z1,z2,z3,z4,z5,z6,z7,z8⟩:=(u).nine;have q0:=(u).free 0;have q1:=(u).free 1;have q2:=(u).free 2;have q3:=(u).free 3;have q4:=(u).free 4;have q5:=(u).free 5;have q6:=(u).free 6;have q7:=(u).free 7;have q8:=(u).free 8;obtain⟨Hm,R,aD⟩:=zh3 aa ac r;clear aa ac r x T;have r:=aD.out;subst r;obtain⟨y0,y1,y2,y3,y4,y5,y6,y7,y8⟩:=(aN.put9 (.int .i64 (({n with part:=P}:S12.M)).bits) (.int .i64 (({n with part:=P}:S12.M)).least) (.slice ((⟨some ⟨c,0,none⟩,j,f,d,some ⟨a,0,none⟩,g⟩:Pl)).ah (({n with part:=P}:S12.M)).heads.length ((⟨some ⟨c,0,none⟩,j,f,d,some ⟨a,0,none⟩,g⟩:Pl)).ch) (.slice ((⟨some ⟨c,0,none⟩,j,f,d,some ⟨a,0,none⟩,g⟩:Pl)).ab (({n with part:=P}:S12.M)).bytes.length ((⟨some ⟨c,0,none⟩,j,f,d,some ⟨a,0,none⟩,g⟩:Pl)).cb) (.int .i64 (({n with part:=P}:S12.M)).at_) (.int .i64 (({n with part:=P}:S12.M)).len) (.int .i64 (({n with part:=P}:S12.M)).part) (.int .i64 2) (.slice ((⟨some ⟨c,0,none⟩,j,f,d,some ⟨a,0,none⟩,g⟩:Pl)).ac (({n with part:=P}:S12.M)).ctrs.length ((⟨some ⟨c,0,none⟩,j,f,d,some ⟨a,0,none⟩,g⟩:Pl)).cc)).nine;go_wp2_with (exact bodyPost_ret (v:=.tuple #[MV {({n with part:=P}:S12.M)with bit:=2} (⟨some ⟨c,0,none⟩,j,f,d,some ⟨a,0,none⟩,g⟩:Pl),.int .i64 0]) (by simp[results,Tryz.results204,go_sem,MV,yX,y0,y1,y2,y3,y4,y5,y6,y7,y8]) rfl ⟨(⟨some ⟨c,0,none⟩,j,f,d,some ⟨a,0,none⟩,g⟩:Pl),rfl,Hm.out.put9 R.out.1 R.out.2.1 R.out.2.2 _ _ _ _ _ _ _ _ _,aF.out,zeN aH (Nat.le_succ _) _ _ _ _ _ _ _ _ _⟩)
end Go.Proofs.YthhgkafloejjiaaGreat
namespace Go.Proofs.YthhgkafloejjiaaGreat
open Go.RowKit
def S12.bitR(m:S12.M)(b:Int):S12.M:=if S12.bitE m b=0 then S12.bitM m b else S12.zero
def ZV:Value:=.agg #[.int .i64 0,.int .i64 0,.slice none 0 0,.slice none 0 0,.int .i64 0,.int .i64 0,.int .i64 0,.int .i64 0,.slice none 0 0]
theorem bit12_err(m:S12.M)(p:Pl)(b:Int)(w:World)(T:MIs m p w)(L:S12.bitE m b≠0) :
 Calls Tryz.prog 204 #[MV m p,b] w fun e w'=>e = .returned (.tuple #[ZV,(S12.bitE m b)])∧Below w w w':=by
 have l:=zC fun W hW=>zfU m p W hW;have HW:=zC fun W=>zdO b 0 1 W;obtain⟨C,o⟩:=zvJ (S12.check m);have c:S12.bitE m b=if C≠0 then C else if¬(0≤b∧b≤1)then 1 else if 128≤m.part∧65536≤m.bytes.length then 11 else 0:=by unfold S12.bitE;rw[o]
 rw[o]at l;have S:C=0→m.bytes.length≤65536:=fun h=>((S12.check_iff m).1 (o.trans h)).few;obtain⟨E,G⟩:=zvJ (S12.bitE m b);rw[G]at c L⊢;have HM:=zC T;have t:Below w w ((w.alloc (.cells (yX m p).toArray 43)).alloc (.cells #[.int .i64 0,.int .i64 0,.slice none 0 0,.slice none 0 0,.int .i64 0,.int .i64 0,.int .i64 0,.int .i64 0,.slice none 0 0] 43)):=by go_grown
 have g:Blk ((w.alloc (.cells (yX m p).toArray 43)).alloc (.cells #[.int .i64 0,.int .i64 0,.slice none 0 0,.slice none 0 0,.int .i64 0,.int .i64 0,.int .i64 0,.int .i64 0,.slice none 0 0] 43)) w.heap.size (yX m p) 43:=(Blk.new w _ _).alloc _;have k:Blk ((w.alloc (.cells (yX m p).toArray 43)).alloc (.cells #[.int .i64 0,.int .i64 0,.slice none 0 0,.slice none 0 0,.int .i64 0,.int .i64 0,.int .i64 0,.int .i64 0,.slice none 0 0] 43)) (w.heap.size+1) [.int .i64 0,.int .i64 0,.slice none 0 0,.slice none 0 0,.int .i64 0,.int .i64 0,.int .i64 0,.int .i64 0,.slice none 0 0] 43:=by
  have h:=Blk.new (w.alloc (.cells (yX m p).toArray 43)) [.int .i64 0,.int .i64 0,.slice none 0 0,.slice none 0 0,.int .i64 0,.int .i64 0,.int .i64 0,.int .i64 0,.slice none 0 0] 43;simpa using h
 clear T G o;have N:∀(X:World),Below w w X→Below w w _:=fun X h=>zeN h (Nat.le_succ _) (.int .i64 0) (.int .i64 0) (.slice none 0 0) (.slice none 0 0) (.int .i64 0) (.int .i64 0) (.int .i64 0) (.int .i64 0) (.slice none 0 0);have F:=zC N;clear N;unfold MV at l;unfold yX at l g k t;show Calls Tryz.prog 204 #[.agg #[m.bits,m.least,.slice p.ah m.heads.length p.ch,.slice p.ab m.bytes.length p.cb,m.at_,m.len,m.part,m.bit,.slice p.ac m.ctrs.length p.cc],b] w _;go_enter Tryz.func204,Tryz.ntmps204;obtain⟨J,Y,R,B,M,x5,D,H,P⟩:=g.nine;obtain⟨w0,Z⟩:=zvJ (((w.alloc (.cells #[m.bits,m.least,.slice p.ah m.heads.length p.ch,.slice p.ab m.bytes.length p.cb,m.at_,m.len,m.part,m.bit,.slice p.ac m.ctrs.length p.cc] 43)).alloc (.cells #[.int .i64 0,.int .i64 0,.slice none 0 0,.slice none 0 0,.int .i64 0,.int .i64 0,.int .i64 0,.int .i64 0,.slice none 0 0] 43)));rw[Z]at t g k J Y R B M x5 D H P;go_wp2_with fail;refine mnb t (l.out _ (HM.out.step t)) fun w1 V aa=> ?_;have a:=k.step V;have O:=g.step V;clear J Y R B M x5 D H P g k Z;by_cases i:C≠0
 ·rw[zQ i]at c;subst c;have eC:(E != 0)=true:=by simp[i]
  obtain⟨z0,z1,z2,z3,z4,z5,z6,z7,z8⟩:=a.nine;have f0:=a.free 0;have f1:=a.free 1;have f2:=a.free 2;have f3:=a.free 3;have f4:=a.free 4;have f5:=a.free 5;have f6:=a.free 6;have f7:=a.free 7;have f8:=a.free 8;obtain⟨q,y,j,z,n,u,r,x,A⟩:=(a.put9 (.int .i64 0) (.int .i64 0) (.slice none 0 0) (.slice none 0 0) (.int .i64 0) (.int .i64 0) (.int .i64 0) (.int .i64 0) (.slice none 0 0)).nine;go_wp2_with (exact bodyPost_ret (v:=.tuple #[ZV,E]) (by simp[results,Tryz.results204,go_sem,ZV,q,y,j,z,n,u,r,x,A]) rfl ⟨rfl,F.out _ aa⟩)
 replace i:=Classical.not_not.1 i;subst i;rw[zG by1]at c;go_wp2_with fail;refine mnb aa (HW.out _) fun U K Q=> ?_;have d:=a.step K;have I:=O.step K;clear a O;obtain⟨z0,z1,z2,z3,z4,z5,z6,z7,z8⟩:=d.nine;have f0:=d.free 0;have f1:=d.free 1;have f2:=d.free 2;have f3:=d.free 3;have f4:=d.free 4;have f5:=d.free 5;have f6:=d.free 6;have f7:=d.free 7;have f8:=d.free 8;obtain⟨q,y,j,z,n,u,r,x,A⟩:=(d.put9 (.int .i64 0) (.int .i64 0) (.slice none 0 0) (.slice none 0 0) (.int .i64 0) (.int .i64 0) (.int .i64 0) (.int .i64 0) (.slice none 0 0)).nine;by_cases f:¬(0≤b∧b≤1)
 ·rw[zQ f]at c;subst c;rw[zL f];go_wp2_with (exact bodyPost_ret (v:=.tuple #[ZV,.int .i64 1]) (by simp[results,Tryz.results204,go_sem,ZV,q,y,j,z,n,u,r,x,A]) rfl ⟨rfl,F.out _ Q⟩)
 replace f:=Classical.not_not.1 f;rw[zG om]at c;rw[zO f];by_cases s:128≤m.part∧65536≤m.bytes.length
 ·rw[zQ s]at c;subst c;have d1:decide (128≤m.part)=true:=zO s.1;have d2:decide (65536≤(m.bytes.length:Int))=true:=zO om;have B:U.cell? ⟨w,3,none⟩=some (.slice p.ab m.bytes.length p.cb):=I.cell 3;have D:U.cell? ⟨w,6,none⟩=some (.int .i64 m.part):=I.cell 6;have ab:m.bytes.length<9223372036854775808:=by have:=S zT;omega
  clear s S f;go_wp2_with (exact bodyPost_ret (v:=.tuple #[ZV,.int .i64 11]) (by simp[results,Tryz.results204,go_sem,ZV,q,y,j,z,n,u,r,x,A]) rfl ⟨rfl,F.out _ Q⟩)
 ·rw[zG s]at c;exact absurd c L
theorem bit12_any(m:S12.M)(p:Pl)(b:Int)(w:World)(f:MIs m p w) :
 Calls Tryz.prog 204 #[MV m p,b] w fun e c=>∃d,e = .returned (.tuple #[MV (S12.bitR m b) d,(S12.bitE m b)])∧MIs (S12.bitR m b) d c∧Far w.heap.size d∧Below w w c:=by
 unfold S12.bitR;by_cases a:S12.bitE m b=0
 ·rw[zQ a,a];by_cases g:128≤m.part
  ·exact bit12_full m p b w f a g
  ·exact bit12_part m p b w f a g
 ·rw[zG a];refine(bit12_err m p b w f a).mono ?_;rintro e c ⟨rfl,h⟩;exact⟨_,rfl,MIs.zero _,Far.none _,h⟩
end Go.Proofs.YthhgkafloejjiaaGreat
namespace Go.Proofs.YthhgkafloejjiaaGreat
open Go.RowKit
end Go.Proofs.YthhgkafloejjiaaGreat
namespace Go.Proofs.YthhgkafloejjiaaGreat
open Go.RowKit Go.Shelf
theorem zgS(g o cap:Nat)(xs:List Int)(p:Nat)(X:p≤xs.length)(V:xs.length≤1000000)(w:World)(H:Rd w (some ⟨g,o,none⟩) (Bts xs)) :
 Calls Tryz.prog 114 #[.slice (some ⟨g,o,none⟩) xs.length cap,p] w fun e P=>e = .returned (.int .i64 (S12.rep xs p:Int))∧Below w w P:=by
 obtain⟨R,z⟩:=zvJ (S12.rep xs p);have t:=zC fun(k:Nat) (S:k≤min 255 p) (N:∀i,i<k→S12.eqAt xs p i=true) (O:k=min 255 p∨S12.eqAt xs p k=false)=>(z.symm.trans (S12.rep_of S N O):R=k);rw[z];have L:=zC H;clear z H;go_enter Tryz.func114,Tryz.ntmps114;go_wp2_with fail;go_loopw [5] (fun n wr=>∃k:Nat,k≤min 255 p∧n = .int .i64 (k:Int)∧(∀i,i<k→S12.eqAt xs p i=true)∧Below w w wr) (fun n _=>255-(intOf n).toNat)
 case atStart=>exact⟨0,by omega,rfl,fun i h=>by omega,zJ _ _⟩
 case round=>
  obtain⟨k,f,rfl,G,l⟩:=hrel;have q:=zC G;clear G;by_cases Z:k<255
  ·by_cases W:k<p
   ·obtain⟨g',o',e,C⟩:=ziY (L.out.step l) (i:=p-1-k) om;cases e;obtain⟨i,j,s,J⟩:=zz2 (p-1-k) (xs.length-1-k);have I:=C i om;have E:=C j om;have A:S12.eqAt xs p k=(xs.getD i 0==xs.getD j 0):=by unfold S12.eqAt;rw[s,J]
    obtain⟨u,v,x,y⟩:=zz2 (xs.getD i 0) (xs.getD j 0);rw[x,y]at A;rw[x]at I;rw[y]at E;have q1:IntKind.i64.wrap (IntKind.i64.wrap ((p:Int)-1)-(k:Int))=(i:Int):=by rw[IntWalk.i64_in ((p:Int)-1) om,IntWalk.i64_in _ om];omega
    have q2:IntKind.i64.wrap (IntKind.i64.wrap ((xs.length:Int)-1)-(k:Int))=(j:Int):=by rw[IntWalk.i64_in ((xs.length:Int)-1) om,IntWalk.i64_in _ om];omega
    have T:i<xs.length:=by omega
    have aa:j<xs.length:=by omega
    have c:Cells wr [(⟨g,o+i,none⟩,.int .u8 u),(⟨g,o+j,none⟩,.int .u8 v)]:=⟨I,E,zT⟩;obtain⟨r,Q⟩:=zh2 A f;clear C A x y s J f;have F:decide ((k:Int)<255)=true:=zO om;have M:decide ((k:Int)<(p:Int))=true:=zO om;cases huv:(u==v)with
    | true=>
      rw[huv]at r;go_wp2_with fail;refine zvL 25 0 [(U,0,25)] (Keeps wr [(⟨g,o+i,none⟩,.int .u8 u),(⟨g,o+j,none⟩,.int .u8 v)]) (Keeps.start c) fun Y B D hY b=> ?_;repeat refine mrd ?_
      repeat first|refine mud ?_|refine mrd ?_
      refine mdn b fun K a=> ?_;clear b hY;go_wp2_with fail;refine mok a ?_;clear a;have d:=zA l (yW wr.heap.size wr);clear c;go_wp2_with fail;go_roundw
      case rel=>exact⟨k+1,by omega,by go_num,fun i s=>by rcases Nat.lt_succ_iff_lt_or_eq.1 s with h|rfl;exact q.out i h;exact r.out,d⟩
      case measure=>simp[intOf];omega
    | false=>
      rw[huv]at r;have m:R=k:=t.out k Q.out q.out (.inr r.out);go_wp2_with fail;refine zvL 25 0 [(U,0,25)] (Keeps wr [(⟨g,o+i,none⟩,.int .u8 u),(⟨g,o+j,none⟩,.int .u8 v)]) (Keeps.start c) fun Y B D hY b=> ?_;repeat refine mrd ?_
      repeat first|refine mud ?_|refine mrd ?_
      refine mdn b fun K a=> ?_;clear b hY;go_wp2_with fail;refine mok a ?_;clear a;have d:=zA l (yW wr.heap.size wr);clear c;go_wp2_with fail;go_returns;exact⟨by rw[m];rfl,d⟩
   ·have m:R=k:=t.out k f q.out (.inl om);have F:decide ((k:Int)<255)=true:=zO om;have M:decide ((k:Int)<(p:Int))=false:=zL om;have c:Cells wr []:=zT;clear f;go_wp2_with fail;refine zvL 25 0 [(U,0,25)] (Keeps wr []) (Keeps.start c) fun Y B D hY b=> ?_;repeat refine mrd ?_
    repeat first|refine mud ?_|refine mrd ?_
    refine mdn b fun K a=> ?_;clear b hY;go_wp2_with fail;refine mok a ?_;clear a;have d:=zA l (yW wr.heap.size wr);clear c;go_wp2_with fail;go_returns;exact⟨by rw[m];rfl,d⟩
  ·have m:R=k:=t.out k f q.out (.inl om);have F:decide ((k:Int)<255)=false:=zL om;have c:Cells wr []:=zT;clear f;go_wp2_with fail;refine zvL 25 0 [(U,0,25)] (Keeps wr []) (Keeps.start c) fun Y B D hY b=> ?_;repeat refine mrd ?_
   repeat first|refine mud ?_|refine mrd ?_
   refine mdn b fun K a=> ?_;clear b hY;go_wp2_with fail;refine mok a ?_;clear a;have d:=zA l (yW wr.heap.size wr);clear c;go_wp2_with fail;go_returns;exact⟨by rw[m];rfl,d⟩
end Go.Proofs.YthhgkafloejjiaaGreat
namespace Go.Proofs.YthhgkafloejjiaaGreat
open Go.RowKit
theorem ziA(x pt:Nat)(I:x<256)(M:1≤pt)(K:pt≤255)(w:World) :
 Calls Tryz.prog 90 #[.int .u8 (x:Int),pt] w fun e F=>e = .returned (.tuple #[(S12.optN (S12.exp x (pt:Int))),.bool (S12.exp x (pt:Int)).isSome])∧Below w w F:=by
 obtain⟨E,l⟩:=zvJ (S12.exp x (pt:Int));have C:=zC fun(n:Nat) (G:n≤7) (a:2^n≤pt) (b:pt<2^(n+1))=>(l.symm.trans (S12.exp_at I G a b):E=_);rw[l];obtain⟨A,c⟩:=zvJ (S12.optN E);rw[c];have r:=zC c;clear l c;go_enter Tryz.func90,Tryz.ntmps90;go_wp2_with fail;go_loopw [6] (fun n wr=>∃k:Nat,k≤7∧n = .int .i64 (k:Int)∧2^k≤pt∧Below w w wr) (fun n _=>8-(intOf n).toNat)
 case atStart=>exact⟨0,by omega,rfl,by omega,zJ _ _⟩
 case round=>
  obtain⟨k,H,rfl,i,o⟩:=hrel;have s:=zjC pt (k+1);by_cases h:2^(k+1)≤pt
  ·have D:k+1≤7:=by
    have B:2^(k+1)<2^8:=by omega
    have:=(Nat.pow_lt_pow_iff_right (by omega:1<2)).1 B;omega
   have g:0<pt/2^(k+1):=Nat.div_pos h (zaJ _);obtain⟨d,t⟩:=zvJ (pt/2^(k+1));rw[t]at g s;clear t i;go_wp2_with fail;go_roundw
   case rel=>exact⟨k+1,D,by go_num,h,o⟩
   case measure=>simp[intOf];omega
  ·have f:=C.out k H i om;have g:pt/2^(k+1)=0:=Nat.div_eq_of_lt om;rw[g]at s;have y:=zjC (256+x) (8-k);have q:=zjC x (7-k);rw[show((256+x:Nat):Int)=256+(x:Int) by omega]at y;obtain⟨u,j⟩:=zvJ ((256+x)/2^(8-k));have z:bits .and .i64 ((x:Int)/2^(7-k)) 1=((x/2^(7-k)%2:Nat):Int):=by rw[zjC,ztL _ (Nat.lt_of_le_of_lt (zfB _ _) om)]
   rw[j]at y f;obtain⟨v,m⟩:=zvJ (x/2^(7-k)%2);rw[m]at z f;have J:¬7<k:=by omega
   by_cases p:u=pt
   ·rw[zQ p]at f;subst f;have c:A=(v:Int):=r.out.symm;subst c;subst p;clear q i g j m h;go_wp2_with fail;exact mf2 o
   ·rw[zG p]at f;subst f;have c:A=2:=r.out.symm;subst c;have L:((u:Int) != (pt:Int))=true:=by simp;omega
    clear q i g j m h z;go_wp2_with fail;exact mf2 o
theorem zrS(m:S12.M)(p:Pl)(w:World)(hl:m.bytes.length≤65536)(ad:1≤m.part∧m.part≤255)(hM:MIs m p w) :
 Calls Tryz.prog 110 #[MV m p] w fun e w'=>e = .returned (.bool (S12.matched m))∧Below w w w':=by
 obtain⟨M,L,heads,c,at_,a,C,t,I⟩:=m;obtain⟨V,ch,s,j,ac,Z⟩:=p;obtain⟨_,aa,_,X,an,_,_,_⟩:=hM;obtain⟨R,hR⟩:=zvJ (S12.matched ⟨M,L,heads,c,at_,a,C,t,I⟩)
 have d:R=if a=0 then decide (at_=0)&&decide (t=2)
  else decide (1≤a∧a≤255)&&decide (a≤at_∧at_≤(c.length:Int)-1)&&decide (a≤(S12.rep c at_.toNat:Int)) &&
   (match S12.exp (c.getD at_.toNat 0).toNat C with|some b=>decide ((b:Int)=t)|none=>false):=by rw[←hR];rfl
 rw[hR];clear hR;simp only at aa X an hl ad;unfold MV yX;simp only;have B0:=Blk.new w [M,L,.slice V heads.length ch,.slice s c.length j,at_,a,C,t,.slice ac I.length Z] 43;have T:Below w w (w.alloc (.cells #[M,L,.slice V heads.length ch,.slice s c.length j,at_,a,C,t,.slice ac I.length Z] 43)):=(zJ _ _).alloc (zF _) _;obtain⟨l,ak⟩:=zvJ ((w.alloc (.cells #[M,L,.slice V heads.length ch,.slice s c.length j,at_,a,C,t,.slice ac I.length Z] 43)));have B1:Blk l w [M,L,.slice V heads.length ch,.slice s c.length j,at_,a,C,t,.slice ac I.length Z] 43:=by rw[←ak];exact B0
 rw[ak]at T;clear B0;obtain⟨x0,x1,x2,x3,x4,x5,x6,x7,x8⟩:=B1.nine;have aq:c.length<9223372036854775808:=by omega
 by_cases O:a=0
 ·rw[zQ O]at d;subst O;by_cases ha:at_=0
  ·subst ha;rw[zO rfl,zaP]at d;subst d;go_enter Tryz.func110,Tryz.ntmps110;go_wp2_with fail;go_returns;exact⟨zaA (by first|rfl|simp),T⟩
  ·rw[zL ha,zdD]at d;subst d;have e1:(at_==0)=false:=by simp[ha]
   go_enter Tryz.func110,Tryz.ntmps110;go_wp2_with fail;exact mf2 T
 rw[zG O]at d;have e0:(a==0)=false:=by simp[O]
 have k:zdM [(⟨w,5,none⟩,a),(⟨w,4,none⟩,at_),(⟨w,3,none⟩,.slice s c.length j)] l:=⟨x5,x4,x3,zT⟩;have n:=T.drew;by_cases H:a<0
 ·have u:R=false:=by rw[d,zL (show¬(1≤a∧a≤255) by omega)];rfl
  subst u;clear d;have Q:decide (a<0)=true:=zO H;go_enter Tryz.func110,Tryz.ntmps110;go_wp2_with fail;refine zvL 33 0 [(U,0,28),(U,29,2),(zvE,28,1),(U,31,2)] (zdM [(⟨w,5,none⟩,a),(⟨w,4,none⟩,at_),(⟨w,3,none⟩,.slice s c.length j)]) (k) fun Y y z hY h=> ?_;repeat refine mrh ?_
  repeat first|refine mud ?_|refine mrh ?_
  repeat first|refine mud ?_|refine msk (k) ?_
  repeat first|refine mud ?_|refine mrh ?_
  refine mdn h fun K f=> ?_;clear h hY;go_wp2_with fail;refine mok f ?_;clear f;go_wp2_with fail;exact mf2 n
 by_cases N:255<a
 ·have u:R=false:=by rw[d,zL (show¬(1≤a∧a≤255) by omega)];rfl
  subst u;clear d;have Q:decide (a<0)=false:=zL H;have d2:decide (255<a)=true:=zO N;go_enter Tryz.func110,Tryz.ntmps110;go_wp2_with fail;refine zvL 33 0 [(U,0,28),(U,29,2),(zvE,28,1),(U,31,2)] (zdM [(⟨w,5,none⟩,a),(⟨w,4,none⟩,at_),(⟨w,3,none⟩,.slice s c.length j)]) (k) fun Y y z hY h=> ?_;repeat refine mrh ?_
  repeat first|refine mud ?_|refine mrh ?_
  repeat first|refine mud ?_|refine msk (k) ?_
  repeat first|refine mud ?_|refine mrh ?_
  refine mdn h fun K f=> ?_;clear h hY;go_wp2_with fail;refine mok f ?_;clear f;go_wp2_with fail;exact mf2 n
 rw[zO (show 1≤a∧a≤255 by omega),zaP]at d;by_cases S:at_<a
 ·have u:R=false:=by rw[d,zL (show¬(a≤at_∧at_≤(c.length:Int)-1) by omega)];rfl
  subst u;clear d;have Q:decide (a<0)=false:=zL H;have d2:decide (255<a)=false:=zL N;have d3:decide (at_<a)=true:=zO S;go_enter Tryz.func110,Tryz.ntmps110;go_wp2_with fail;refine zvL 33 0 [(U,0,28),(U,29,2),(zvE,28,1),(U,31,2)] (zdM [(⟨w,5,none⟩,a),(⟨w,4,none⟩,at_),(⟨w,3,none⟩,.slice s c.length j)]) (k) fun Y y z hY h=> ?_;repeat refine mrh ?_
  repeat first|refine mud ?_|refine mrh ?_
  repeat first|refine mud ?_|refine msk (k) ?_
  repeat first|refine mud ?_|refine mrh ?_
  refine mdn h fun K f=> ?_;clear h hY;go_wp2_with fail;refine mok f ?_;clear f;go_wp2_with fail;exact mf2 n
 by_cases c4:(c.length:Int)≤at_
 ·have u:R=false:=by rw[d,zL (show¬(a≤at_∧at_≤(c.length:Int)-1) by omega)];rfl
  subst u;clear d;have Q:decide (a<0)=false:=zL H;have d2:decide (255<a)=false:=zL N;have d3:decide (at_<a)=false:=zL S;have d4:decide ((c.length:Int)≤at_)=true:=zO c4;go_enter Tryz.func110,Tryz.ntmps110;go_wp2_with fail;refine zvL 33 0 [(U,0,28),(U,29,2),(zvE,28,1),(U,31,2)] (zdM [(⟨w,5,none⟩,a),(⟨w,4,none⟩,at_),(⟨w,3,none⟩,.slice s c.length j)]) (k) fun Y y z hY h=> ?_;repeat refine mrh ?_
  repeat first|refine mud ?_|refine mrh ?_
  repeat first|refine mud ?_|refine msk (k) ?_
  repeat first|refine mud ?_|refine mrh ?_
  refine mdn h fun K f=> ?_;clear h hY;go_wp2_with fail;refine mok f ?_;clear f;go_wp2_with fail;exact mf2 n
 rw[zO (show a≤at_∧at_≤(c.length:Int)-1 by omega),zaP]at d;have Q:decide (a<0)=false:=zL H;have d2:decide (255<a)=false:=zL N;have d3:decide (at_<a)=false:=zL S;have d4:decide ((c.length:Int)≤at_)=false:=zL c4;obtain⟨q,rfl⟩:∃q:Nat,at_=q:=⟨at_.toNat,by omega⟩;have ag:q<c.length:=by omega
 have ar:¬c.length≤q:=by omega
 obtain⟨D,rfl⟩:∃D:Nat,C=D:=⟨C.toNat,by omega⟩;rw[Int.toNat_natCast]at d;have aj:=X.get q;have am:=X.at q;obtain⟨x,hx⟩:∃x:Nat,c.getD q 0=x:=⟨(c.getD q 0).toNat,(zgO aj).symm⟩;rw[hx,Int.toNat_natCast]at am d;obtain⟨g,o,rfl,al⟩:=ziY aa (i:=q) ag;have yq:=al q ag;rw[hx]at yq;have P:=zC fun W (hW:Below w w W)=>zgS g o j c q om om W (aa.step hW);obtain⟨J,ai⟩:=zvJ (S12.rep c q);rw[ai]at P d;have HE:=zC fun W=>ziA x D am om om W;obtain⟨E,hE⟩:=zvJ (S12.exp x (D:Int));rw[hE]at HE d;have lq:=zE yq;have ap:=zC ad;clear al hx ai hE aj X H N S c4 ad O;by_cases c5:(J:Int)<a
 ·have u:R=false:=by rw[d,zL (show¬a≤(J:Int) by omega)];rfl
  subst u;have d5:decide ((J:Int)<a)=true:=zO c5;clear d;go_enter Tryz.func110,Tryz.ntmps110;go_wp2_with fail;refine zvL 33 0 [(U,0,28),(U,29,2),(zvE,28,1),(U,31,2)] (zdM [(⟨w,5,none⟩,a),(⟨w,4,none⟩,q),(⟨w,3,none⟩,.slice (some ⟨g,o,none⟩) c.length j)]) (k) fun Y y z hY h=> ?_;repeat refine mrh ?_
  refine mcl ?_;refine(P.out _ n).mono ?_;rintro e A ⟨rfl,r⟩;refine⟨_,rfl,Cells.step (zA (yW l.heap.size l) r) k,?_⟩;simp only[zvF];repeat refine mrh ?_
  refine mdn h fun K f=> ?_;clear h hY;go_wp2_with fail;refine mok f ?_;clear f;have G:=zA n r;go_wp2_with fail;exact mf2 G
 rw[zO (show a≤(J:Int) by omega),zaP]at d;have d5:decide ((J:Int)<a)=false:=zL c5;cases E with
 | none=>
   simp only at d;subst d;go_enter Tryz.func110,Tryz.ntmps110;go_wp2_with fail;refine zvL 33 0 [(U,0,28),(U,29,2),(zvE,28,1),(U,31,2)] (zdM [(⟨w,5,none⟩,a),(⟨w,4,none⟩,q),(⟨w,3,none⟩,.slice (some ⟨g,o,none⟩) c.length j)]) (k) fun Y y z hY h=> ?_;repeat refine mrh ?_
   refine mcl ?_;refine(P.out _ n).mono ?_;rintro e A ⟨rfl,r⟩;refine⟨_,rfl,Cells.step (zA (yW l.heap.size l) r) k,?_⟩;simp only[zvF];repeat refine mrh ?_
   refine mdn h fun K f=> ?_;clear h hY;go_wp2_with fail;refine mok f ?_;clear f;have G:=zA n r;have v:=B1.step (zA (yW l.heap.size l) r);have F:zdM [(⟨w,3,none⟩,.slice (some ⟨g,o,none⟩) c.length j),(⟨w,4,none⟩,q),(⟨w,6,none⟩,D),(⟨g,o+q,none⟩,.int .u8 (x:Int))] A:=⟨v.cell 3,v.cell 4,v.cell 6,(G.cell (p:=⟨g,o+q,none⟩) lq).trans yq,zT⟩;go_wp2_with fail;refine zvL 13 1 [(U,0,8),(zvE,8,1),(U,9,3),(zvE,12,1)] (zdM [(⟨w,3,none⟩,.slice (some ⟨g,o,none⟩) c.length j),(⟨w,4,none⟩,q),(⟨w,6,none⟩,D),(⟨g,o+q,none⟩,.int .u8 (x:Int))]) (F) fun Y y z hY h=> ?_;repeat refine mrh ?_
   refine mcl ?_;refine(HE.out _).mono ?_;rintro e w2 ⟨rfl,af⟩;have B:=zA (yW A.heap.size A) af;refine⟨_,rfl,Cells.step B F,?_⟩;simp only[zvF];repeat refine mrh ?_
   refine mvl (Cells.step B F) ?_;refine mdn h fun K f=> ?_;clear h hY;go_wp2_with fail;refine mok f ?_;clear f;have ae:=zA G B;go_wp2_with fail;exact mf2 ae
 | some ev=>
   simp only at d;subst d;go_enter Tryz.func110,Tryz.ntmps110;go_wp2_with fail;refine zvL 33 0 [(U,0,28),(U,29,2),(zvE,28,1),(U,31,2)] (zdM [(⟨w,5,none⟩,a),(⟨w,4,none⟩,q),(⟨w,3,none⟩,.slice (some ⟨g,o,none⟩) c.length j)]) (k) fun Y y z hY h=> ?_;repeat refine mrh ?_
   refine mcl ?_;refine(P.out _ n).mono ?_;rintro e A ⟨rfl,r⟩;refine⟨_,rfl,Cells.step (zA (yW l.heap.size l) r) k,?_⟩;simp only[zvF];repeat refine mrh ?_
   refine mdn h fun K f=> ?_;clear h hY;go_wp2_with fail;refine mok f ?_;clear f;have G:=zA n r;have v:=B1.step (zA (yW l.heap.size l) r);have F:zdM [(⟨w,3,none⟩,.slice (some ⟨g,o,none⟩) c.length j),(⟨w,4,none⟩,q),(⟨w,6,none⟩,D),(⟨g,o+q,none⟩,.int .u8 (x:Int))] A:=⟨v.cell 3,v.cell 4,v.cell 6,(G.cell (p:=⟨g,o+q,none⟩) lq).trans yq,zT⟩;go_wp2_with fail;refine zvL 13 1 [(U,0,8),(zvE,8,1),(U,9,3),(zvE,12,1)] (zdM [(⟨w,3,none⟩,.slice (some ⟨g,o,none⟩) c.length j),(⟨w,4,none⟩,q),(⟨w,6,none⟩,D),(⟨g,o+q,none⟩,.int .u8 (x:Int))]) (F) fun Y y z hY h=> ?_;repeat refine mrh ?_
   refine mcl ?_;refine(HE.out _).mono ?_;rintro e w2 ⟨rfl,af⟩;have B:=zA (yW A.heap.size A) af;refine⟨_,rfl,Cells.step B F,?_⟩;simp only[zvF];repeat refine mrh ?_
   refine mvl (Cells.step B F) ?_;refine mdn h fun K f=> ?_;clear h hY;go_wp2_with fail;refine mok f ?_;clear f;have ae:=zA G B;have y7:w2.cell? ⟨w,7,none⟩=some (.int .i64 t):=(v.step B).cell 7;go_wp2_with fail;go_returns;exact⟨zaA (by first|(by_cases ao:(ev:Int)=t<;>simp[S12.optN,ao];done)|simp[S12.optN]),ae⟩
theorem ziF(m:S12.M)(p:Pl)(w:World)(Z:MIs m p w) :
 Calls Tryz.prog 73 #[MV m p] w fun e w'=>e = .returned (.int .i64 (S12.check m))∧Below w w w':=by
 obtain⟨R,a⟩:=zvJ (S12.check m);rw[a];unfold S12.check at a;have al:=zC fun(hl:m.bytes.length≤65536) ao W hW=>zrS m p W hl ao hW;obtain⟨MT,ay⟩:=zvJ (S12.matched m);rw[ay]at a al;obtain⟨FA,BA,ar,ak⟩:=zz2 (S12.far m) (S12.bad m);rw[ar,ak]at a;have aB:S12.form m=(decide (m.heads.length=2^m.bits.toNat)&&decide (m.ctrs.length=16)&&decide (1≤m.part∧m.part≤255)):=rfl;rw[aB]at a;obtain⟨X,af⟩:=zh2 (show(m.heads.any fun h=> !decide (0≤h∧h≤(m.bytes.length:Int)))=FA from ar) (show(m.ctrs.any fun c=>S08.check c.1 c.2 255 != 0)=BA from ak);clear ar ak ay aB;have HM:=zC Z;have aJ:=Z.lb;have aQ:=Z.lh;have aR:=Z.lc;clear Z;obtain⟨C,B,heads,b,at_,Q,d,T,q⟩:=m;obtain⟨t,r,z,y,v,u⟩:=p;simp only at a aJ aQ aR X af;unfold MV yX at *;simp only at *;have B0:=Blk.new w [C,B,.slice t heads.length r,.slice z b.length y,at_,Q,d,T,.slice v q.length u] 43;have D:Below w w (w.alloc (.cells #[C,B,.slice t heads.length r,.slice z b.length y,at_,Q,d,T,.slice v q.length u] 43)):=(zJ _ _).alloc (zF _) _;obtain⟨A,aq⟩:=zvJ ((w.alloc (.cells #[C,B,.slice t heads.length r,.slice z b.length y,at_,Q,d,T,.slice v q.length u] 43)));rw[aq]at D;have E:Blk A w [C,B,.slice t heads.length r,.slice z b.length y,at_,Q,d,T,.slice v q.length u] 43:=by rw[←aq];exact B0
 clear B0;have p0:A.cell? ⟨w,0,none⟩=some (.int .i64 C):=E.cell 0;have p1:A.cell? ⟨w,1,none⟩=some (.int .i64 B):=E.cell 1;have p3:A.cell? ⟨w,3,none⟩=some (.slice z b.length y):=E.cell 3;by_cases b1:C<1
 ·rw[zQ om]at a;subst a;go_enter Tryz.func73,Tryz.ntmps73;go_wp2_with fail;exact mf2 D
 by_cases b2:16<C
 ·rw[zQ om]at a;subst a;go_enter Tryz.func73,Tryz.ntmps73;go_wp2_with fail;exact mf2 D
 by_cases b3:B<1
 ·rw[zQ om]at a;subst a;go_enter Tryz.func73,Tryz.ntmps73;go_wp2_with fail;exact mf2 D
 by_cases b4:32<B
 ·rw[zQ om]at a;subst a;go_enter Tryz.func73,Tryz.ntmps73;go_wp2_with fail;exact mf2 D
 rw[zG om]at a;have aC:(b.length:Int)=b.length:=rfl;by_cases h3:65536<b.length
 ·rw[zQ h3]at a;subst a;have e3:decide ((65536:Int)<(b.length:Int))=true:=zO om;go_enter Tryz.func73,Tryz.ntmps73;go_wp2_with fail;exact mf2 D
 rw[zG h3]at a;have e3:decide ((65536:Int)<(b.length:Int))=false:=zL om;obtain⟨f,rfl⟩:∃f:Nat,C=f:=⟨C.toNat,by omega⟩;have aN:¬f<1:=by omega
 have aI:¬f=0:=by omega
 have aF:¬16<f:=by omega
 have aG:decide ((f:Int)<1)=false:=zL om;have aO:decide (16<(f:Int))=false:=zL om;have aK:¬65536<b.length:=by omega
 have q2:A.cell? ⟨w,2,none⟩=some (.slice t heads.length r):=E.cell 2;have q6:A.cell? ⟨w,6,none⟩=some (.int .i64 d):=E.cell 6;have q8:A.cell? ⟨w,8,none⟩=some (.slice v q.length u):=E.cell 8;have s:zdM [(⟨w,2,none⟩,.slice t heads.length r),(⟨w,0,none⟩,f),(⟨w,8,none⟩,.slice v q.length u),(⟨w,6,none⟩,d)] A:=⟨q2,p0,q8,q6,zT⟩;rw[Int.toNat_natCast]at a;have au:2^f≤65536:=zcP (n:=2) om (show f≤16 by omega);have aA:IntKind.i64.wrap ((2:Int)^f)=((2^f:Nat):Int):=by
  have e:(2:Int)^f=((2^f:Nat):Int):=by simp
  rw[e];exact zdN om
 obtain⟨N,hN⟩:=zvJ (2^f);rw[hN]at aA au a;clear hN;have J:=D.drew;have aT:f<64:=by omega
 by_cases M:¬heads.length=N
 ·have e4:((heads.length:Int) != (N:Int))=true:=by simp;omega
  rw[zL M,zdD,zdD,zQ rfl]at a;subst a;go_enter Tryz.func73,Tryz.ntmps73;go_wp2_with fail;refine zvL 23 0 [(U,0,23)] (zdM [(⟨w,2,none⟩,.slice t heads.length r),(⟨w,0,none⟩,f),(⟨w,8,none⟩,.slice v q.length u),(⟨w,6,none⟩,d)]) (s) fun Y F G hY l=> ?_;repeat refine mrh ?_
  repeat first|refine mud ?_|refine mrh ?_
  repeat first|refine mud ?_|refine msk (s) ?_
  repeat first|refine mud ?_|refine mrh ?_
  refine mdn l fun K j=> ?_;clear l hY;go_wp2_with fail;refine mok j ?_;clear j;go_wp2_with fail;exact mf2 J
 replace M:=Classical.not_not.1 M;have e4:((heads.length:Int) != (N:Int))=false:=by simp;omega
 rw[zO M,zaP]at a;have H4:=zC M;clear M;by_cases O:¬q.length=16
 ·have e5:((q.length:Int) != 16)=true:=by simp;omega
  rw[zL O,zdD,zQ rfl]at a;subst a;go_enter Tryz.func73,Tryz.ntmps73;go_wp2_with fail;refine zvL 23 0 [(U,0,23)] (zdM [(⟨w,2,none⟩,.slice t heads.length r),(⟨w,0,none⟩,f),(⟨w,8,none⟩,.slice v q.length u),(⟨w,6,none⟩,d)]) (s) fun Y F G hY l=> ?_;repeat refine mrh ?_
  repeat first|refine mud ?_|refine mrh ?_
  repeat first|refine mud ?_|refine msk (s) ?_
  repeat first|refine mud ?_|refine mrh ?_
  refine mdn l fun K j=> ?_;clear l hY;go_wp2_with fail;refine mok j ?_;clear j;go_wp2_with fail;exact mf2 J
 replace O:=Classical.not_not.1 O;have e5:((q.length:Int) != 16)=false:=by simp;omega
 rw[zO O,zaP]at a;have H5:=zC O;clear O;by_cases h6:d<1
 ·have d6:decide (d<1)=true:=zO h6;rw[zL (show¬(1≤d∧d≤255) by omega),zQ rfl]at a;subst a;go_enter Tryz.func73,Tryz.ntmps73;go_wp2_with fail;refine zvL 23 0 [(U,0,23)] (zdM [(⟨w,2,none⟩,.slice t heads.length r),(⟨w,0,none⟩,f),(⟨w,8,none⟩,.slice v q.length u),(⟨w,6,none⟩,d)]) (s) fun Y F G hY l=> ?_;repeat refine mrh ?_
  repeat first|refine mud ?_|refine mrh ?_
  repeat first|refine mud ?_|refine msk (s) ?_
  repeat first|refine mud ?_|refine mrh ?_
  refine mdn l fun K j=> ?_;clear l hY;go_wp2_with fail;refine mok j ?_;clear j;go_wp2_with fail;exact mf2 J
 have d6:decide (d<1)=false:=zL h6;by_cases h7:255<d
 ·have d7:decide (255<d)=true:=zO h7;rw[zL (show¬(1≤d∧d≤255) by omega),zQ rfl]at a;subst a;go_enter Tryz.func73,Tryz.ntmps73;go_wp2_with fail;refine zvL 23 0 [(U,0,23)] (zdM [(⟨w,2,none⟩,.slice t heads.length r),(⟨w,0,none⟩,f),(⟨w,8,none⟩,.slice v q.length u),(⟨w,6,none⟩,d)]) (s) fun Y F G hY l=> ?_;repeat refine mrh ?_
  repeat first|refine mud ?_|refine mrh ?_
  repeat first|refine mud ?_|refine msk (s) ?_
  repeat first|refine mud ?_|refine mrh ?_
  refine mdn l fun K j=> ?_;clear l hY;go_wp2_with fail;refine mok j ?_;clear j;go_wp2_with fail;exact mf2 J
 have d7:decide (255<d)=false:=zL h7;rw[zO (show 1≤d∧d≤255 by omega),zG by1]at a;have aE:b.length≤65536:=by omega
 have ao:1≤d∧d≤255:=by omega
 have aM:=zC fun W hW=>al.out aE ao W hW;have HR:=zC a;clear al a h3 h6 h7 b1 b2 aC;go_enter Tryz.func73,Tryz.ntmps73;go_wp2_with fail;refine zvL 23 0 [(U,0,23)] (zdM [(⟨w,2,none⟩,.slice t heads.length r),(⟨w,0,none⟩,f),(⟨w,8,none⟩,.slice v q.length u),(⟨w,6,none⟩,d)]) (s) fun Y F G hY l=> ?_;repeat refine mrh ?_
 repeat first|refine mud ?_|refine mrh ?_
 refine mdn l fun K j=> ?_;clear l hY;go_wp2_with fail;refine mok j ?_;clear j;clear aN aI aF aG aO b3 b4 aK s q2 q6 q8 p0 p1 p3 e3 e4 d6 d7 aA au aq;have B2:=E.step (yW A.heap.size A);clear E;go_wp2_with fail;go_loopw [3] (fun i wr=>∃k:Nat,k≤heads.length∧i = .int .i64 (k:Int)∧((heads.take k).any fun h=> !decide (0≤h∧h≤(b.length:Int)))=false∧Blk wr w [f,B,.slice t heads.length r,.slice z b.length y,at_,Q,d,T,.slice v q.length u] 43∧Below w w wr) (fun i _=>heads.length-(intOf i).toNat)
 case atStart=>exact⟨0,by omega,rfl,rfl,B2,J⟩
 case round=>
  obtain⟨k,hk,rfl,ad,BR,hB⟩:=hrel;have r2:wr.cell? ⟨w,2,none⟩=some (.slice t heads.length r):=BR.cell 2;have r3:wr.cell? ⟨w,3,none⟩=some (.slice z b.length y):=BR.cell 3;have I:=zC ad;clear ad B2 D J;by_cases L:k<heads.length
  ·have ai:decide ((k:Int)<(heads.length:Int))=true:=zO om;obtain⟨g,o,rfl,P⟩:=(HM.out.rdh.step hB).at (i:=k) (by rw[zR];exact L);have hc:wr.cell? ⟨g,o+k,none⟩=some (.int .i64 heads[k]):=by rw[P k (by rw[zR];exact L)];simp[zaE]
   obtain⟨Hs,S⟩:=zh2 (zcA (fun h=> !decide (0≤h∧h≤(b.length:Int))) heads k L) (zfA (fun h=> !decide (0≤h∧h≤(b.length:Int))) heads k L);obtain⟨x,hx⟩:=zvJ (heads[k]);rw[hx]at hc Hs S;have s:zdM [(⟨w,2,none⟩,.slice (some ⟨g,o,none⟩) heads.length r),(⟨w,3,none⟩,.slice z b.length y),(⟨g,o+k,none⟩,x)] wr:=⟨r2,r3,hc,zT⟩;have ag:=hB.drew;clear P hx;by_cases V:x<0
   ·have dx:decide (x<0)=true:=zO V;have ht:(!decide (0≤x∧x≤(b.length:Int)))=true:=by simp;omega
    have H:=S.out ht;rw[X.out]at H;have a:=HR.out;rw[zQ (.inl H)]at a;clear ht H;subst a;go_wp2_with fail;refine zvL 17 0 [(U,0,17)] (zdM [(⟨w,2,none⟩,.slice (some ⟨g,o,none⟩) heads.length r),(⟨w,3,none⟩,.slice z b.length y),(⟨g,o+k,none⟩,x)]) (s) fun Y F G hY l=> ?_;repeat refine mrh ?_
    repeat first|refine mud ?_|refine mrh ?_
    repeat first|refine mud ?_|refine msk (s) ?_
    repeat first|refine mud ?_|refine mrh ?_
    refine mdn l fun K j=> ?_;clear l hY;go_wp2_with fail;refine mok j ?_;clear j;go_wp2_with fail;exact mf2 ag
   have aU:decide (x<0)=false:=zL V;by_cases x2:(b.length:Int)<x
   ·have dx:decide ((b.length:Int)<x)=true:=zO x2;have ht:(!decide (0≤x∧x≤(b.length:Int)))=true:=by simp;omega
    have H:=S.out ht;rw[X.out]at H;have a:=HR.out;rw[zQ (.inl H)]at a;clear ht H;subst a;go_wp2_with fail;refine zvL 17 0 [(U,0,17)] (zdM [(⟨w,2,none⟩,.slice (some ⟨g,o,none⟩) heads.length r),(⟨w,3,none⟩,.slice z b.length y),(⟨g,o+k,none⟩,x)]) (s) fun Y F G hY l=> ?_;repeat refine mrh ?_
    repeat first|refine mud ?_|refine mrh ?_
    repeat first|refine mud ?_|refine msk (s) ?_
    repeat first|refine mud ?_|refine mrh ?_
    refine mdn l fun K j=> ?_;clear l hY;go_wp2_with fail;refine mok j ?_;clear j;go_wp2_with fail;exact mf2 ag
   have aW:decide ((b.length:Int)<x)=false:=zL x2
   have Hn:=zC (show((heads.take (k+1)).any fun h=> !decide (0≤h∧h≤(b.length:Int)))=false by
    have h0:(!decide (0≤x∧x≤(b.length:Int)))=false:=by simp;omega
    rw[Hs.out,I.out,h0];rfl)
   have aL:=BR.step (yW wr.heap.size wr);go_wp2_with fail;refine zvL 17 0 [(U,0,17)] (zdM [(⟨w,2,none⟩,.slice (some ⟨g,o,none⟩) heads.length r),(⟨w,3,none⟩,.slice z b.length y),(⟨g,o+k,none⟩,x)]) (s) fun Y F G hY l=> ?_;repeat refine mrh ?_
   repeat first|refine mud ?_|refine mrh ?_
   refine mdn l fun K j=> ?_;clear l hY;go_wp2_with fail;refine mok j ?_;clear j;go_wp2_with fail;go_roundw
   case rel=>exact⟨k+1,by omega,by go_num,Hn.out,aL,ag⟩
   case measure=>simp[intOf];omega
  ·obtain rfl:k=heads.length:=by omega
   have ai:decide ((heads.length:Int)<(heads.length:Int))=false:=zL om;have aH:FA=false:=by have:=I.out;rw[zaD,X.out]at this;exact this
   clear X I;subst aH;go_wp2_with fail;clear ai r2 r3;go_loopw [4] (fun i ws=>∃k:Nat,k≤16∧i = .int .i64 (k:Int)∧((q.take k).any fun c=>S08.check c.1 c.2 255 != 0)=false∧Blk ws w [f,B,.slice t heads.length r,.slice z b.length y,at_,Q,d,T,.slice v q.length u] 43∧Below w w ws) (fun i _=>16-(intOf i).toNat)
   case atStart=>exact⟨0,by omega,rfl,rfl,BR,hB⟩
   case round=>
    obtain⟨k,hk,rfl,ad,BS,aa⟩:=hrel;have I:=zC ad;clear ad BR hB;obtain⟨s0,s1,s2,s3,s4,s5,s6,s7,s8⟩:=BS.c9;by_cases L:k<16
    ·have ae:k<q.length:=by rw[H5.out];exact L
     have ai:decide ((k:Int)<16)=true:=zO om;obtain⟨g,o,rfl,P⟩:=(HM.out.rdc.step aa) (fun e=>by have:=yG List.length e;rw[yT]at this;simp at this;omega);have av:=P (k*2) _ (zeD ae).1;have ap:=P (k*2+1) _ (zeD ae).2;obtain⟨Hs,S⟩:=zh2 (zcA (fun c=>S08.check c.1 c.2 255 != 0) q k ae) (zfA (fun c=>S08.check c.1 c.2 255 != 0) q k ae);obtain⟨x,hx⟩:=zvJ (q[k]);rw[hx]at av ap Hs S;clear P hx;obtain⟨x0,V⟩:=x;simp only at av ap;rw[←zcE]at ap;have HT:=zC fun W=>zcL x0 V 255 W;obtain⟨ck,am⟩:=zvJ (S08.check x0 V 255);have ax:=zC am;rw[am]at HT;clear am;by_cases hz:ck=0
     ·subst hz;have Hn:=zC (show((q.take (k+1)).any fun c=>S08.check c.1 c.2 255 != 0)=false by rw[Hs.out,I.out];simp only;rw[ax.out];rfl);go_wp2_with fail;refine mnb aa (HT.out _) fun w5 az an=> ?_;have aP:=BS.step az;go_wp2_with fail;go_roundw
      case rel=>exact⟨k+1,by omega,by go_num,Hn.out,aP,an⟩
      case measure=>simp[intOf];omega
     ·have aS:(ck != 0)=true:=by simp[hz]
      have aj:=S.out (by simp only;rw[ax.out];exact aS);rw[af.out]at aj;have a:=HR.out;rw[zQ (.inr (.inl aj))]at a;clear aj;subst a;go_wp2_with fail;refine mnb aa (HT.out _) fun w5 az an=> ?_;go_wp2_with fail;exact mf2 an
    ·obtain rfl:k=16:=by omega
     have aD:BA=false:=by have:=I.out;rw[List.take_of_length_le (Nat.le_of_eq H5.out),af.out]at this;exact this
     have a:=HR.out;clear af I;subst aD;go_wp2_with fail;refine mnb aa (aM.out _ (HM.out.step aa)) fun w7 aV aw=> ?_;cases MT with
     | true=>
       rw[zG by1]at a;subst a;exact mf1 aw
     | false=>
       rw[zQ by1]at a;subst a;exact mf1 aw
theorem zrP(m:S12.M)(p:Pl)(w:World)(hM:MIs m p w) :
 Calls Tryz.prog 78 #[MV m p] w fun e w'=>e = .returned (.tuple #[(S12.predP m),.bool (S12.predB m)])∧Below w w w':=by
 have S:=zC fun W hW=>ziF m p W hW;obtain⟨C,n⟩:=zvJ (S12.check m);have a:S12.predP m=if C≠0 then 0 else if m.len=0 then 2048 else if m.bit=0 then 4096-S08.predict (m.ctrs.getD (min m.len.toNat 15) (0,0)).1 (m.ctrs.getD (min m.len.toNat 15) (0,0)).2 else S08.predict (m.ctrs.getD (min m.len.toNat 15) (0,0)).1 (m.ctrs.getD (min m.len.toNat 15) (0,0)).2:=by
  rw[←n];rfl
 have c:S12.predB m=(decide (C=0)&&decide (m.len≠0)):=by rw[←n];rfl
 obtain⟨PP,PB,P,G⟩:=zz2 (S12.predP m) (S12.predB m);rw[P]at a;rw[G]at c;rw[P,G];rw[n]at S
 have ad:C=0→m.ctrs.length=16∧0≤m.len∧(m.len≠0→m.bit=0∨m.bit=1):=fun h=>by
  have M:=(S12.check_iff m).1 (n.trans h);refine⟨M.ctrs,?_,?_⟩
  ·rcases(S12.matched_iff m).1 M.mat with⟨h3,_⟩|h3
   ·omega
   ·have:=h3.len;omega
  ·intro h0;obtain⟨b,I,al⟩:=(M.Mat h0).exp;have:=S12.exp_lt I;omega
 obtain⟨J,HM⟩:=zh2 ad hM;clear P G n hM ad;obtain⟨v,u,heads,B,at_,d,A,s,i⟩:=m;obtain⟨z,F,y,x,E,D⟩:=p;simp only at a c J;unfold MV yX at *;simp only at *;have Z:=Blk.new w [v,u,.slice z heads.length F,.slice y B.length x,at_,d,A,s,.slice E i.length D] 43;have K:Below w w (w.alloc (.cells #[v,u,.slice z heads.length F,.slice y B.length x,at_,d,A,s,.slice E i.length D] 43)):=(zJ _ _).alloc (zF _) _;obtain⟨w0,O⟩:=zvJ ((w.alloc (.cells #[v,u,.slice z heads.length F,.slice y B.length x,at_,d,A,s,.slice E i.length D] 43)));rw[O]at K;have N:Blk w0 w [v,u,.slice z heads.length F,.slice y B.length x,at_,d,A,s,.slice E i.length D] 43:=by rw[←O];exact Z
 clear Z;obtain⟨R,Y,x2,x3,x4,x5,x6,x7,V⟩:=N.nine;go_enter Tryz.func78,Tryz.ntmps78;go_wp2_with fail;refine mnb K (S.out _ (HM.out.step K)) fun w1 I r=> ?_;have T:=N.step I;clear R Y x2 x3 x4 x5 x6 x7 V N O;by_cases j:¬C=0
 ·rw[zQ j]at a;rw[zL j,zdD]at c;subst a c;have e1:(C != 0)=true:=by simp[j]
  exact mf1 r
 replace j:=Classical.not_not.1 j;subst j;rw[zG by1]at a;rw[zO rfl,zaP]at c;obtain⟨R,Y,x2,x3,x4,x5,x6,x7,V⟩:=T.nine;by_cases f:d=0
 ·rw[zQ f]at a;rw[zL (fun h=>h f)]at c;subst a c;have e1:(d==0)=true:=by simp[f]
  exact mf1 r
 rw[zG f]at a;rw[zO f]at c;subst c;have e1:(d==0)=false:=by simp[f]
 obtain⟨aa,ae,X⟩:=J.out rfl;have ag:=X f;obtain⟨k,hk⟩:∃k:Nat,min d.toNat 15=k:=⟨_,rfl⟩;rw[hk]at a;have ak:min d 15=(k:Int):=by omega
 have am:k<i.length:=by omega
 obtain⟨g,o,rfl,l,t⟩:=Cts_cells (HM.out.rdc) (k:=k) (by simp only;omega);simp only at l t;obtain⟨q,Q⟩:=zvJ (i.getD k (0,0));rw[Q]at l t a;have L:=zC fun W=>zfC q.1 q.2 W;obtain⟨pv,H⟩:=zvJ (S08.predict q.1 q.2);have ai:0≤pv∧pv≤4096:=by rw[←H];unfold S08.predict;split<;>omega
 rw[H]at L a;obtain⟨p0,p1⟩:=q;simp only at l t L;have aj:=zC aa;clear aa Q H J ae hk X;have lg:g<w.heap.size:=zE l;have y1:w1.cell? ⟨g,o+k*2,none⟩=some (.int .i64 p0):=(r.cell (p:=⟨g,o+k*2,none⟩) lg).trans l;have y2:w1.cell? ⟨g,o+k*2+1,none⟩=some (.int .i64 p1):=(r.cell (p:=⟨g,o+k*2+1,none⟩) lg).trans t;clear l t;go_wp2_with fail;refine mnb r (L.out _) fun w4 af U=> ?_;have B5:=T.step af;have z7:w4.cell? ⟨w,7,none⟩=some (.int .i64 s):=B5.cell 7;rcases ag with rfl|rfl
 ·rw[zQ rfl]at a;subst a;exact mf1 U
 ·rw[zG om]at a;subst a;exact mf1 U
theorem zhY(xs:List (Int×Int))(a b:Option Addr)(D O:Nat)(w:World)(M:xs.length≤100000)(J:Rd w a (Cts xs))(G:Rd w b (Cts xs)) :
 Calls Tryz.prog 52 #[.slice a xs.length D,.slice b xs.length O] w fun e I=>e = .returned (.bool true)∧Below w w I:=by
 obtain⟨n,u⟩:=zvJ xs.length;have B:∀k,k<n→∃x:Int×Int,(Cts xs)[k*2]? = some (.int .i64 x.1)∧(Cts xs)[k*2+1]? = some (.int .i64 x.2):=fun k N=>⟨xs[k]'om,zeD om⟩;obtain⟨C,L⟩:=zh2 B (fun(e:Cts xs = [])=>show n=0 by have:=yG List.length e;rw[yT]at this;simp at this;omega);rw[u]at M⊢;clear B u;go_enter Tryz.func52,Tryz.ntmps52;go_wp2_with fail
 go_loopw [5] (fun i wr=>∃k:Nat,k≤n∧i = .int .i64 k∧Below w w wr)
  (fun i _=>n-(intOf i).toNat)
 case atStart=>exact⟨0,by omega,rfl,by go_grown⟩
 case round=>
  obtain⟨k,N,rfl,h⟩:=hrel;by_cases E:k<n
  ·have Q:(k:Int)<(n:Int):=by omega
   have s:Cts xs≠ []:=fun e=>by have:=L.out e;omega
   obtain⟨⟨d,l⟩,q,r⟩:=C.out k E;obtain⟨j,f,rfl,p⟩:=(J.step h) s;obtain⟨c,g,rfl,m⟩:=(G.step h) s;have y:=p (k*2) _ q;have o:=p (k*2+1) _ r;have v:=m (k*2) _ q;have t:=m (k*2+1) _ r;rw[←zcE]at o t;simp only at y o v t;clear p m q r s;have F:zdM [(⟨j,f+k*2,none⟩,d),(⟨j,f+k*2+1,none⟩,l),(⟨c,g+k*2,none⟩,d),(⟨c,g+k*2+1,none⟩,l)] wr:=⟨y,o,v,t,zT⟩;have P:0≤(k:Int):=by omega
   have H:=h.drew;go_wp2_with fail;refine zvL 9 0 [(U,0,9)] (zdM [(⟨j,f+k*2,none⟩,d),(⟨j,f+k*2+1,none⟩,l),(⟨c,g+k*2,none⟩,d),(⟨c,g+k*2+1,none⟩,l)]) (F) fun Y R S hY A=> ?_;repeat refine mrh ?_
   repeat first|refine mud ?_|refine mrh ?_
   refine mdn A fun K z=> ?_;clear A hY;go_wp2_with fail;refine mok z ?_;clear z;go_wp2;go_roundw
   case rel=>exact⟨k+1,by omega,by go_num,H⟩
   case measure=>simp[intOf];omega
  ·obtain rfl:k=n:=by omega
   exact mf1 h
theorem rsame12_eq(m:S12.M)(p q:Pl)(w:World)(N:MIs m p w)(hq:MIs m q w)(hc:m.ctrs.length≤100000) :
 Calls Tryz.prog 54 #[MV m p,MV m q] w fun e w'=>e = .returned (.bool true)∧Below w w w':=by
 obtain⟨R,P⟩:=zh2 N hq;have lh:=N.lh;have lb:=N.lb;clear N hq;obtain⟨d,c,heads,b,at_,f,g,h,a⟩:=m;obtain⟨C,n,v,u,o,r⟩:=p;obtain⟨A,l,B,z,t,s⟩:=q;simp only at lh lb hc;have HA:=zC fun W h1 h2=>zhY a o t r s W hc h1 h2;unfold MV yX;simp only;have B0:=Blk.new w [d,c,.slice C heads.length n,.slice v b.length u,at_,f,g,h,.slice o a.length r] 43;have V:Below w w (w.alloc (.cells #[d,c,.slice C heads.length n,.slice v b.length u,at_,f,g,h,.slice o a.length r] 43)):=(zJ _ _).alloc (zF _) _;obtain⟨j,L⟩:=zvJ ((w.alloc (.cells #[d,c,.slice C heads.length n,.slice v b.length u,at_,f,g,h,.slice o a.length r] 43)));rw[L]at V;have A0:Blk j w [d,c,.slice C heads.length n,.slice v b.length u,at_,f,g,h,.slice o a.length r] 43:=by rw[←L];exact B0
 clear B0;have B1:=Blk.new j [d,c,.slice A heads.length l,.slice B b.length z,at_,f,g,h,.slice t a.length s] 43;have I:Below j j (j.alloc (.cells #[d,c,.slice A heads.length l,.slice B b.length z,at_,f,g,h,.slice t a.length s] 43)):=(zJ _ _).alloc (zF _) _;obtain⟨Z,aa⟩:=zvJ ((j.alloc (.cells #[d,c,.slice A heads.length l,.slice B b.length z,at_,f,g,h,.slice t a.length s] 43)));rw[aa]at I;have J:Blk Z j [d,c,.slice A heads.length l,.slice B b.length z,at_,f,g,h,.slice t a.length s] 43:=by rw[←aa];exact B1
 have A1:=A0.step I;have M:=zA V I;have hz:j.heap.size=w.heap.size+1:=by rw[←L];simp
 clear B1 A0;rw[hz]at J;obtain⟨x0,x1,T,x3,x4,x5,x6,x7,x8⟩:=A1.nine;obtain⟨y0,y1,X,y3,y4,y5,y6,y7,y8⟩:=J.nine;obtain⟨st,ac⟩:=zvJ (strOfNums b);have O:=conv12 b v u Z (R.out.rdb.step M);have Q:=conv12 b B z Z (P.out.rdb.step M);try simp only at O Q
 rw[ac]at O Q;clear ac I V;go_enter Tryz.func54,Tryz.ntmps54;go_wp2_with fail;clear x0 x1 x3 x4 x5 x6 x7 y0 y1 y3 y4 y5 y6 y7 T x8 X y8 O Q L aa;go_loopw [5] (fun i wr=>∃k:Nat,k≤heads.length∧i = .int .i64 (k:Int)∧Blk wr w [d,c,.slice C heads.length n,.slice v b.length u,at_,f,g,h,.slice o a.length r] 43∧Blk wr (w.heap.size+1) [d,c,.slice A heads.length l,.slice B b.length z,at_,f,g,h,.slice t a.length s] 43∧Below w w wr) (fun i _=>heads.length-(intOf i).toNat)
 case atStart=>exact⟨0,by omega,rfl,A1,J,M⟩
 case round=>
  obtain⟨k,hk,rfl,A2,S,y⟩:=hrel;clear A1 J M;have T:wr.cell? ⟨w,2,none⟩=some (.slice C heads.length n):=A2.cell 2;have x8:wr.cell? ⟨w,8,none⟩=some (.slice o a.length r):=A2.cell 8;have X:wr.cell? ⟨w.heap.size+1,2,none⟩=some (.slice A heads.length l):=S.cell 2;have y8:wr.cell? ⟨w.heap.size+1,8,none⟩=some (.slice t a.length s):=S.cell 8;by_cases H:k<heads.length
  ·have ah:decide ((k:Int)<(heads.length:Int))=true:=zO om;obtain⟨D,F,rfl,ad⟩:=(R.out.rdh.step y).at (i:=k) (by rw[zR];exact H);obtain⟨E,G,rfl,ab⟩:=(P.out.rdh.step y).at (i:=k) (by rw[zR];exact H);have ae:wr.cell? ⟨D,F+k,none⟩=some (.int .i64 heads[k]):=by rw[ad k (by rw[zR];exact H)];simp[zaE]
   have af:wr.cell? ⟨E,G+k,none⟩=some (.int .i64 heads[k]):=by rw[ab k (by rw[zR];exact H)];simp[zaE]
   obtain⟨x,hx⟩:=zvJ (heads[k]);rw[hx]at ae af;clear ad ab hx;have hC:zdM [(⟨w,2,none⟩,.slice (some ⟨D,F,none⟩) heads.length n),(⟨w.heap.size+1,2,none⟩,.slice (some ⟨E,G,none⟩) heads.length l),(⟨D,F+k,none⟩,x),(⟨E,G+k,none⟩,x)] wr:=⟨T,X,ae,af,zT⟩;have ag:=y.drew;have A3:=A2.step (yW wr.heap.size wr);have C3:=S.step (yW wr.heap.size wr);go_wp2_with fail;refine zvL 11 0 [(U,0,11)] (zdM [(⟨w,2,none⟩,.slice (some ⟨D,F,none⟩) heads.length n),(⟨w.heap.size+1,2,none⟩,.slice (some ⟨E,G,none⟩) heads.length l),(⟨D,F+k,none⟩,x),(⟨E,G+k,none⟩,x)]) (hC) fun Y Q4 F4 hY hF=> ?_;repeat refine mrh ?_
   repeat first|refine mud ?_|refine mrh ?_
   refine mdn hF fun K hK=> ?_;clear hF hY;go_wp2_with fail;refine mok hK ?_;clear hK;go_wp2;go_roundw
   case rel=>exact⟨k+1,by omega,by go_num,A3,C3,ag⟩
   case measure=>simp[intOf];omega
  ·obtain rfl:k=heads.length:=by omega
   have ah:decide ((heads.length:Int)<(heads.length:Int))=false:=zL om;go_wp2_with fail;refine mnb y (HA.out _ (R.out.rdc.step y) (P.out.rdc.step y)) fun w5 aj ai=> ?_;go_wp2_with fail;exact mf2 ai
theorem rindex12_any(xs:List Int)(n L:Nat)(a:Option Addr)(cap:Nat)(w:World)(Z:1≤n∧n≤16)(ab:1≤L∧L≤32)(T:L≤xs.length)(V:xs.length≤65537)(u:S12.Byt xs)(G:Rd w a (Bts xs)) :
 Calls Tryz.prog 113 #[.slice a xs.length cap,n,L] w fun e X=>e = .returned (.int .i64 (S12.idx xs (n:Int) (L:Int):Int))∧Below w w X:=by
 obtain⟨g,o,rfl,P⟩:=ziY G (i:=0) om;obtain⟨b,d⟩:∃b:Nat,xs.length-L=b:=⟨_,rfl⟩;obtain⟨ys,l⟩:∃ys:List Int,xs.drop b=ys:=⟨_,rfl⟩;have y:ys.length=L:=by rw[←l,List.length_drop];omega
 have z:∀j,j<L→w.cell? ⟨g,o+(b+j),none⟩=some (.int .u8 (ys.getD j 0)):=fun j hj=>by
  rw[P (b+j) om,←l,List.getD,List.getD,zdI]
 have D:∀j,0≤ys.getD j 0∧ys.getD j 0<256:=fun j=>by
  have e:ys.getD j 0=xs.getD (b+j) 0:=by rw[←l,List.getD,List.getD,zdI]
  rw[e];exact⟨u.get _,by have:=u.at (b+j);have:=u.get (b+j);omega⟩
 have R:S12.idx xs (n:Int) (L:Int)=S12.hash ys/2^(32-n):=by
  unfold S12.idx;rw[Int.toNat_natCast,Int.toNat_natCast,d,l]
 rw[R];obtain⟨q,c⟩:=zvJ (S12.hash ys/2^(32-n));rw[c];have U:=zC c;obtain⟨N,C⟩:=zvJ xs.length;rw[C]at d T V⊢;have e0:(N:Int)-(L:Int)=(b:Int):=by omega
 obtain⟨I,E,F,B⟩:=zh4 z D d y;clear c R l P G z D C d y;go_enter Tryz.func113,Tryz.ntmps113;go_wp2_with fail;go_loopw [7,8] (fun h i wr=>∃k:Nat,k≤L∧i = .int .i64 ((b+k:Nat):Int)∧h = .int .u32 (S12.hash (ys.take k):Int)∧Below w w wr) (fun _ i _=>N-(intOf i).toNat)
 case atStart=>exact⟨0,by omega,rfl,rfl,zJ _ w⟩
 case round=>
  obtain⟨k,hk,rfl,rfl,s⟩:=hrel;have d:=F.out;by_cases A:k<L
  ·have M:=(s.cell (p:=⟨g,o+(b+k),none⟩) (zE (I.out k A))).trans (I.out k A);have r:=zC (S12.hash_take (ys:=ys) (k:=k) (by rw[B.out];omega));have m:=S12.hash_lt (ys.take k);obtain⟨H,f⟩:=zvJ (S12.hash (ys.take k));obtain⟨x,v⟩:∃x:Nat,ys.getD k 0=x:=⟨(ys.getD k 0).toNat,by have:=E.out k;omega⟩;have ac:x<256:=by have:=E.out k;omega
   rw[f,v,Int.toNat_natCast]at r;rw[f]at m⊢;rw[v]at M;have O:=zoA H x S12.factor 4294967296 2654435761 4294967296 rfl rfl;obtain⟨Q,K⟩:∃Q,(H+x+1)*S12.factor%4294967296=Q:=⟨_,rfl⟩;rw[K]at O r;clear v f K d;obtain⟨S,t⟩:=zvJ (b+k);have aa:S<N:=by have:=F.out;omega
   rw[t]at M⊢;have Y:=zC t;clear t;go_wp2_with fail;go_roundw
   case rel=>exact⟨k+1,by omega,by have:=Y.out;go_num,by rw[r.out,O],s⟩
   case measure=>simp[intOf];omega
  ·obtain rfl:k=L:=by omega
   have e:ys.take k=ys:=List.take_of_length_le (by rw[B.out];omega);rw[e];have m:=S12.hash_lt ys;have c:=U.out;obtain⟨H,f⟩:=zvJ (S12.hash ys);rw[f]at m c⊢;have W:=zjC H (32-n);have ad:q<4294967296:=by rw[←c];exact Nat.lt_of_le_of_lt (zfB _ _) m
   rw[c]at W;have J:b+k=N:=by omega
   rw[J];clear f e c d J;go_wp2_with fail;exact mf2 s
