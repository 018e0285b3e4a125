/- A part of the proof of L15. No condition. -/
import Derived.Test.YtahaacfikalheaaGreatZL15am
import Derived.Test.YtahaacfikalheaaGreatZL15av
import Derived.Test.YtahaacfikalheaaGreatZL15bh
set_option linter.all false
set_option maxRecDepth 100000
set_option maxHeartbeats 4000000
namespace Go.Proofs.YtahaacfikalheaaGreat
open Go.RowKit
def Own(w:World)(g:Nat)(t:TypeId)(vals:List Value):Prop:=∃rest,Blk w g (vals++rest) t
theorem Own.lt{w:World}{g:Nat}{t:TypeId}{vals:List Value}(h:Own w g t vals):g<w.heap.size:=by obtain⟨r,h⟩:=h;exact h.lt
theorem Own.step{w w':World}{g:Nat}{t:TypeId}{vals:List Value}(h:Own w g t vals)(hb:Below w.heap.size w w'):Own w' g t vals:=by obtain⟨r,h⟩:=h;exact⟨r,h.step hb⟩
theorem Own.cell{w:World}{g:Nat}{t:TypeId}{vals:List Value}(h:Own w g t vals){i:Nat}(hi:i<vals.length):w.cell? ⟨g,i,none⟩=vals[i]? :=by
 obtain⟨r,h⟩:=h;rw[h.cell,zaN hi]
theorem Own.free{w:World}{g:Nat}{t:TypeId}{vals:List Value}(h:Own w g t vals)(i:Nat):w.frozen? ⟨g,i,none⟩=false:=by obtain⟨r,h⟩:=h;exact h.free i
theorem Own.rd{w:World}{g:Nat}{t:TypeId}{vals:List Value}(h:Own w g t vals):Rd w (some ⟨g,0,none⟩) vals:=fun _=>⟨g,0,rfl,fun j v hv=>by
 rw[yK,h.cell (List.getElem?_eq_some_iff.1 hv).1];exact hv⟩
theorem Own.set{w:World}{g:Nat}{t:TypeId}{vals:List Value}(h:Own w g t vals){i:Nat}(hi:i<vals.length)(v:Value):Own (w.setCell ⟨g,i,none⟩ v) g t (vals.set i v):=by
 obtain⟨r,h⟩:=h;refine⟨r,?_⟩;rw[←List.set_append_left _ _ hi];exact h.set i v
theorem Own.other{w:World}{g:Nat}{t:TypeId}{vals:List Value}(h:Own w g t vals)(c i:Nat)(v:Value)(hne:¬g=c):Own (w.setCell ⟨c,i,none⟩ v) g t vals:=by obtain⟨r,h⟩:=h;exact⟨r,h.other c i v hne⟩
theorem Blk.type{w:World}{b:Nat}{cs cs':List Value}{t t':TypeId}(h:Blk w b cs t)(h':Blk w b cs' t'):t=t':=by
 unfold Blk at h h';rw[h]at h';simp at h';exact h'.2
theorem Own.ne{w:World}{g c:Nat}{t t':TypeId}{vals cs:List Value}(h:Own w g t vals)(hb:Blk w c cs t')(ht:¬t=t'):¬g=c:=fun e=>by
 obtain⟨r,h⟩:=h;subst e;exact ht (h.type hb)
theorem zfH{w:World}{base:Nat}{e t:TypeId}{n cap b i:Nat}{a:Option Addr}{xs cs:List Value}{v:Value}(h:w.ownsRow base e 1 (.slice a n cap) n xs)(hb:Blk w b cs t)(hne:¬e=t):(w.setCell ⟨b,i,none⟩ v).ownsRow base e 1 (.slice a n cap) n xs:=
 h.kept (zaJ w b i v) (.inr (zbQ h hb hne))
theorem Cts_set12:∀(l:List (Int×Int)) (k:Nat) (a b:Int),Cts (l.set k (a,b))=((Cts l).set (k*2) (.int .i64 a)).set (k*2+1) (.int .i64 b)
 | [],k,a,b=>by simp[Cts]
 | c::l,0,a,b=>by simp[zlI]
 | c::l,k+1,a,b=>by
   rw[List.set_cons_succ,zlI,zlI,Cts_set12 l k a b,show(k+1)*2=k*2+1+1 by omega];rfl
structure St(B S gh gc:Nat)(m:S12.M)(p:Pl)(w:World):Prop where
 blk:Blk w S (zbJ m p) 225
 ph:p.ah=some ⟨gh,0,none⟩
 pc:p.ac=some ⟨gc,0,none⟩
 hs:B≤S
 hh:B≤gh
 hc:B≤gc
 oh:Own w gh 3 (zaK m.heads)
 oc:Own w gc 179 (Cts m.ctrs)
 ob:w.ownsRow B 5 1 (.slice p.ab m.bytes.length p.cb) m.bytes.length (Bts m.bytes)
theorem St.step{B S gh gc:Nat}{m:S12.M}{p:Pl}{w w':World}(h:St B S gh gc m p w)(hb:Below w.heap.size w w'):St B S gh gc m p w':=
 ⟨h.blk.step hb,h.ph,h.pc,h.hs,h.hh,h.hc,h.oh.step hb,h.oc.step hb,yX (B:=0) h.ob hb⟩
theorem St.put{B S gh gc:Nat}{m m':S12.M}{p:Pl}{w:World}(h:St B S gh gc m p w)(i:Nat)(v:Value)(e:(zbJ m p).set i v=zbJ m' p)(eh:m'.heads=m.heads)(ec:m'.ctrs=m.ctrs)(eb:m'.bytes=m.bytes):St B S gh gc m' p (w.setCell ⟨S,i,none⟩ v):=
 ⟨e▸h.blk.set i v,h.ph,h.pc,h.hs,h.hh,h.hc,by rw[eh];exact h.oh.other S i v (h.oh.ne h.blk (by decide)),by rw[ec];exact h.oc.other S i v (h.oc.ne h.blk (by decide)),by rw[eb];exact zfH h.ob h.blk (by decide)⟩
theorem St.putC{B S gh gc:Nat}{m:S12.M}{p:Pl}{w:World}(h:St B S gh gc m p w)(k:Nat)(hk:k<m.ctrs.length)(a b:Int):St B S gh gc {m with ctrs:=m.ctrs.set k (a,b)} p ((w.setCell ⟨gc,k*2,none⟩ (.int .i64 a)).setCell ⟨gc,k*2+1,none⟩ (.int .i64 b)):=by
 have hne1:¬S=gc:=fun e=>(h.oc.ne h.blk (by decide)) e.symm;obtain⟨r,hr⟩:=h.oc;have hne2:¬gh=gc:=h.oh.ne hr (by decide);refine⟨?_,h.ph,h.pc,h.hs,h.hh,h.hc,(h.oh.other gc _ _ hne2).other gc _ _ hne2,?_,?_⟩
 ·have:=(h.blk.other gc (k*2) (.int .i64 a) hne1).other gc (k*2+1) (.int .i64 b) hne1;unfold zbJ at this⊢;simpa using this
 ·rw[show({m with ctrs:=m.ctrs.set k (a,b)}:S12.M).ctrs=m.ctrs.set k (a,b)from rfl,Cts_set12];exact(h.oc.set (by rw[zbY];omega) _).set (by rw[yT,zbY];omega) _
 ·exact zfH (zfH h.ob hr (by decide)) (hr.set _ _) (by decide)
theorem St.putH{B S gh gc:Nat}{m:S12.M}{p:Pl}{w:World}(h:St B S gh gc m p w)(k:Nat)(hk:k<m.heads.length)(a:Int):St B S gh gc {m with heads:=m.heads.set k a} p (w.setCell ⟨gh,k,none⟩ (.int .i64 a)):=by
 have hne1:¬S=gh:=fun e=>(h.oh.ne h.blk (by decide)) e.symm;obtain⟨r,hr⟩:=h.oh;have hne2:¬gc=gh:=h.oc.ne hr (by decide);refine⟨?_,h.ph,h.pc,h.hs,h.hh,h.hc,?_,h.oc.other gh _ _ hne2,zfH h.ob hr (by decide)⟩
 ·have:=h.blk.other gh k (.int .i64 a) hne1;unfold zbJ at this⊢;simpa using this
 ·rw[show zaK ({m with heads:=m.heads.set k a}:S12.M).heads=(zaK m.heads).set k (.int .i64 a) by simp[zaK,List.map_set]];exact h.oh.set (by rw[yM];omega) _
def KeepF(w w':World):Prop:=∀F cs,Blk w F cs 1→Blk w' F cs 1
theorem KeepF.refl(w:World):KeepF w w:=fun _ _ h=>h
theorem KeepF.trans{a b c:World}(h1:KeepF a b)(h2:KeepF b c):KeepF a c:=fun F cs h=>h2 F cs (h1 F cs h)
theorem KeepF.of{w w':World}(hb:Below w.heap.size w w'):KeepF w w':=fun _ _ h=>h.step hb
theorem KeepF.set{w:World}{b i:Nat}{cs:List Value}{t:TypeId}{v:Value}(h:Blk w b cs t)(ht:¬1=t):KeepF w (w.setCell ⟨b,i,none⟩ v):=fun F ds hF=>hF.other b i v (fun e=>by subst e;exact ht (hF.type h))
theorem KeepF.setO{w:World}{b i:Nat}{cs:List Value}{t:TypeId}{v:Value}(h:Own w b t cs)(ht:¬1=t):KeepF w (w.setCell ⟨b,i,none⟩ v):=by obtain⟨r,h⟩:=h;exact KeepF.set h ht
end Go.Proofs.YtahaacfikalheaaGreat
namespace Go.Proofs.YtahaacfikalheaaGreat
open Go.RowKit
theorem zcK(B:Nat)(w:World):Below B w w.drew:=(zF B w).drew
theorem end12_any(S:Nat)(c0 c1 c2 c3 c4 c5 c6 c7 c8:Value)(w:World)(hB:Blk w S [c0,c1,c2,c3,c4,c5,c6,c7,c8] 225) :
 Calls Tryz.prog 179 #[.pointer (some ⟨S,0,none⟩)] w fun e w'=>e = .returned (.tuple #[])∧w'=(w.setCell ⟨S,4,none⟩ (.int .i64 0)).setCell ⟨S,5,none⟩ (.int .i64 0):=by
 obtain⟨x0,x1,x2,x3,x4,x5,x6,x7,x8⟩:=hB.nine;have f4:=hB.free 4;have f5:=hB.free 5;go_enter Tryz.func179,Tryz.ntmps179;go_wp2_with fail;go_returns;exact⟨rfl,rfl⟩
theorem extend12_any(B S gh gc:Nat)(m:S12.M)(p:Pl)(w:World)(h:St B S gh gc m p w)(hl:0≤m.len∧m.len≤255)(ha:0≤m.at_∧m.at_≤1000000) :
 Calls Tryz.prog 171 #[.pointer (some ⟨S,0,none⟩)] w fun e w'=>e = .returned (.tuple #[])∧St B S gh gc (S12.extend m) p w'∧Below B w w'∧KeepF w w':=by
 have hS:=h.hs;obtain⟨x0,x1,x2,x3,x4,x5,x6,x7,x8⟩:=h.blk.nine;have f4:=h.blk.free 4;have f5:=h.blk.free 5
 have H1:∀W,St B S gh gc m p W→St B S gh gc {m with at_:=m.at_+1,len:=min (m.len+1) 255} p ((W.setCell ⟨S,4,none⟩ (.int .i64 (m.at_+1))).setCell ⟨S,5,none⟩ (.int .i64 (min (m.len+1) 255))):=fun W h=>
  (h.put (m':={m with at_:=m.at_+1}) 4 _ rfl rfl rfl rfl).put (m':={m with at_:=m.at_+1,len:=min (m.len+1) 255}) 5 _ rfl rfl rfl rfl
 have hdr:Below w.heap.size w w.drew:=zcK _ w;have lS:=h.blk.lt;unfold S12.extend;have HS:=zB h;have H1:=zB H1;clear h;obtain⟨bits,least,heads,bytes,at_,len,part,bit,ctrs⟩:=m;simp only at *;go_enter Tryz.func171,Tryz.ntmps171;by_cases h0:0<len
 ·have e0:decide (0<len)=true:=zQ h0;rw[zO h0];have H2:=zB (H1.out _ (HS.out.step hdr));have w1:IntKind.i64.wrap (at_+1)=at_+1:=IntWalk.i64_in _ (by omega);have w2:IntKind.i64.wrap (len+1)=len+1:=IntWalk.i64_in _ (by omega);clear H1;go_wp2_with fail;refine zbL 18 19 4 [(.p,[true,true,true,true,true,true]),(.r,[false,false,false,false,false,false,true]),(.p,[false,false,false,false,false,false,false,true,true,true,true,true]),(.r,[false,false,false,false,false,false,false,false,false,false,false,false,true]),(.p,[false,false,false,false,false,false,false,false,false,false,false,false,false,true,true,true,true,true]),(.l,[false,false,false,false,false,false,false,false,false,false,false,false,false,false,false,false,false,false,true])] _ _ (zbT [(⟨S,4,none⟩,.int .i64 at_),(⟨S,5,none⟩,.int .i64 len)]) (by kernel_rfl) (yB 19 _).symm (by kernel_rfl) (by kernel_rfl) (by kernel_rfl) (by kernel_rfl) (⟨x4,x5,yF⟩) (fun Y Q4 F4 hY hF=> ?_);simp only[zeR,lfc,lfn,ltc,ltz,ldc,ldz,zeE,zdE,zfU,lmc,lmn,lca,lna,lan]
  repeat
   first
    | (apply zaR (by rw[hY];rfl)
       ·intro w2;go_simp;with_reducible rfl
       simp only[zuI])
    | (apply zaQ (by rw[hY];rfl)
       ·intro w2 hS2;(try simp only[Keeps,zbT,Cells]at hS2);go_simp;with_reducible rfl
       simp only[zuI])
  refine zbD (by rw[hY];rfl) (by go_simp;first|with_reducible exact⟨rfl,rfl⟩|with_reducible rfl) ?_;simp only[zuI];refine zcR (hF.out _ _ (fun K hK=> ?_));clear hF hY;go_wp2_with fail;refine OnlyK.mk (hK.out _ _ ?_);clear hK;go_wp2_with fail;go_returns;exact⟨rfl,H2.out,((zcK B w).setCell (p:=⟨S,4,none⟩) hS _).setCell (p:=⟨S,5,none⟩) hS _,(KeepF.of hdr).trans ((KeepF.set (HS.out.step hdr).blk (by decide)).trans (KeepF.set ((HS.out.step hdr).blk.set 4 _) (by decide)))⟩
 ·have e0:decide (0<len)=false:=yD h0;rw[zG h0];go_wp2_with fail;go_returns;exact⟨rfl,HS.out,zF _ _,KeepF.refl _⟩
end Go.Proofs.YtahaacfikalheaaGreat
namespace Go.Proofs.YtahaacfikalheaaGreat
open Go.RowKit
theorem S12.upd_ok{p n r:Int}(h:S08.check p n 255=0)(hr:r=0∨r=1)(w:World) :
 Calls Tryz.prog 128 #[.agg #[.int .i64 p,.int .i64 n],.int .i64 r,.int .i64 255] w fun e w'=>e = .returned (.tuple #[.agg #[.int .i64 (S08.step p n r),.int .i64 (min (n+1) 255)],.int .i64 0])∧Below w.heap.size w w':=by
 have h1:=znC p n r 255 w;rw[S08.updateV_ok (by unfold S08.updateE;rw[zG (by omega),zG (by omega)])]at h1;exact h1
theorem zpW(B S gh gc:Nat)(m:S12.M)(p:Pl)(b:Int)(w:World)(h:St B S gh gc m p w)(hc:m.ctrs.length=16)(hck:∀c∈m.ctrs,S08.check c.1 c.2 255=0)(hl:0≤m.len) :
 Calls Tryz.prog 170 #[.pointer (some ⟨S,0,none⟩),.int .i64 b] w fun e w'=>e = .returned (.int .i64 0)∧St B S gh gc (S12.learn m b) p w'∧Below B w w':=by
 have hS:=h.hs;have hgc:=h.hc;have hBw:B≤w.heap.size:=yC hS (Nat.le_of_lt h.blk.lt);obtain⟨x0,x1,x2,x3,x4,x5,x6,x7,x8⟩:=h.blk.nine;have lS:=h.blk.lt;have lc:=h.oc.lt;by_cases h0:m.len=0
 ·have e0:S12.learn m b=m:=by unfold S12.learn;rw[zO h0]
  rw[e0];rw[h0]at x5;have HS:=zB h;clear h hck h0 e0;go_enter Tryz.func170,Tryz.ntmps170;go_wp2_with fail;go_returns;exact⟨rfl,HS.out,zF _ _⟩
 obtain⟨k,hk⟩:∃k:Nat,min m.len.toNat 15=k:=⟨_,rfl⟩;obtain⟨cp,hcp⟩:∃cp,m.ctrs.getD k (0,0)=cp:=⟨_,rfl⟩;have hk16:k<m.ctrs.length:=by omega
 have hok:S08.check cp.1 cp.2 255=0:=hck cp (by rw[←hcp,S12.getD_in _ _ hk16];exact zbC hk16);have hU:=fun r (hr:r=0∨r=1)=>S12.upd_ok hok hr;have y1:w.cell? ⟨gc,k*2,none⟩=some (.int .i64 cp.1):=by
  rw[h.oc.cell (by rw[zbY];omega),(zjB hk16).1,←hcp,S12.getD_in _ _ hk16]
 have y2:w.cell? ⟨gc,k*2+1,none⟩=some (.int .i64 cp.2):=by
  rw[h.oc.cell (by rw[zbY];omega),(zjB hk16).2,←hcp,S12.getD_in _ _ hk16]
 have hlearn:S12.learn m b=if b=m.bit then {m with ctrs:=m.ctrs.set k (S08.step cp.1 cp.2 1,min (cp.2+1) 255)}else {m with ctrs:=m.ctrs.set k (S08.step cp.1 cp.2 0,min (cp.2+1) 255),at_:=0,len:=0}:=by
  unfold S12.learn;rw[zG h0,hk,hcp]
 have HCo:=zB fun W (hb:Below w.heap.size w W)=>zkP S m p W (h.blk.step hb) hc (by omega) gc 0 h.pc;rw[hk]at HCo;simp only[yK]at HCo;have HU:=zB hU;have HSt:=zB h;have e0:(m.len==0)=false:=by simp[h0]
 have H16:=zB hk16;clear hU hck hok hcp hk h0 hl h hc hk16;obtain⟨p0,p1⟩:=cp;simp only at y1 y2 hlearn HU;obtain⟨n1,hn1⟩:∃n1,min (p1+1) 255=n1:=⟨_,rfl⟩;rw[hn1]at hlearn HU;clear hn1;by_cases hbit:b=m.bit
 all_goals
  first|rw[zO hbit]at hlearn|rw[zG hbit]at hlearn
  rw[hlearn];clear hlearn
 ·have eb:(b==m.bit)=true:=by simp[hbit]
  have HU1:=zB (HU.out 1 (.inr rfl));obtain⟨s1,hs1⟩:∃s1,S08.step p0 p1 1=s1:=⟨_,rfl⟩;rw[hs1]at HU1⊢;clear HU hs1 hbit;go_enter Tryz.func170,Tryz.ntmps170;go_wp2_with fail;refine(HCo.out _ (zF _ _)).mono ?_;rintro e w1 ⟨rfl,hb1⟩;have y3:=(hb1.cell (p:=⟨gc,k*2,none⟩) lc).trans y1;have y4:=(hb1.cell (p:=⟨gc,k*2+1,none⟩) lc).trans y2;go_wp2_with fail;refine(HU1.out _).mono ?_;rintro e w2 ⟨rfl,hb2⟩;have hB2:=zA hb1 hb2;go_wp2_with fail;obtain⟨w3,hw3⟩:∃w3,w2.alloc (Obj.cells #[Value.int IntKind.i64 s1,Value.int IntKind.i64 n1] 179)=w3:=⟨_,rfl⟩;have hb3:Below w2.heap.size w2 w3:=by rw[←hw3];exact(zF _ _).alloc (zD _) _
  have C3:Blk w3 w2.heap.size [.int .i64 s1,.int .i64 n1] 179:=by rw[←hw3];exact Blk.new w2 _ _
  have hB3:=zA hB2 hb3;have hC3:Cells w3 [(⟨w2.heap.size,0,none⟩,.int .i64 s1),(⟨w2.heap.size,1,none⟩,.int .i64 n1)]:=⟨C3.cell 0,C3.cell 1,yF⟩;rw[hw3];refine zuL 3 2 [(U,[U,zuH,U]),(zuH,[zuH,U])] (Keeps w3 [(⟨w2.heap.size,0,none⟩,.int .i64 s1),(⟨w2.heap.size,1,none⟩,.int .i64 n1)]) (by kernel_rfl) (Keeps.start hC3) (fun Y Q4 F4 hY hF=> ?_);simp only[zuJ]
  repeat
   apply zJ (by rw[hY];rfl)
   ·intro w2 hS2;(try simp only[Keeps,zbT,Cells]at hS2);go_simp;with_reducible rfl
   simp only[zuI]
  apply zR (by rw[hY];rfl)
  ·go_simp;with_reducible exact⟨rfl,rfl⟩
  refine(HCo.out _ (zA hB3 (Keeps.start hC3).1)).mono ?_;rintro e w4 ⟨rfl,hb4⟩;refine⟨_,rfl,(Keeps.start hC3).step hb4,?_⟩;simp only[zuI];refine yE (hF.out _ _ (fun K hK=> ?_));clear hF hY;have hB4:Below w.heap.size w w4:=zA hB3 (zA (Keeps.start hC3).1 hb4);have S4:=HSt.out.step hB4;have g1:=S4.oc.free (k*2);have g2:=S4.oc.free (k*2+1);have y5:=(hB4.cell (p:=⟨gc,k*2,none⟩) lc).trans y1;have y6:=(hB4.cell (p:=⟨gc,k*2+1,none⟩) lc).trans y2;have S5:=zB (S4.putC k H16.out s1 n1);have hB5:Below B w ((w4.setCell ⟨gc,k*2,none⟩ (.int .i64 s1)).setCell ⟨gc,k*2+1,none⟩ (.int .i64 n1)):=((hB4.mono hBw).setCell (p:=⟨gc,k*2,none⟩) hgc _).setCell (p:=⟨gc,k*2+1,none⟩) hgc _;clear y3 y4 hC3 S4;go_wp2_with fail;refine OnlyK.mk (hK.out _ _ ?_);clear hK;go_wp2_with fail
  first
   | (go_returns;exact⟨rfl,S5.out,hB5⟩)
   | (refine(end12_any S _ _ _ _ _ _ _ _ _ _ S5.out.blk).mono ?_;rintro e w6 ⟨rfl,rfl⟩;go_wp2_with fail;go_returns;exact⟨rfl,(S5.out.put (m':={m with ctrs:=m.ctrs.set k (s1,n1),at_:=0}) 4 _ rfl rfl rfl rfl).put (m':={m with ctrs:=m.ctrs.set k (s1,n1),at_:=0,len:=0}) 5 _ rfl rfl rfl rfl,(hB5.setCell (p:=⟨S,4,none⟩) hS _).setCell (p:=⟨S,5,none⟩) hS _⟩)
 ·have eb:(b==m.bit)=false:=by simp[hbit]
  have HU1:=zB (HU.out 0 (.inl rfl));obtain⟨s1,hs1⟩:∃s1,S08.step p0 p1 0=s1:=⟨_,rfl⟩;rw[hs1]at HU1⊢;clear HU hs1 hbit;go_enter Tryz.func170,Tryz.ntmps170;go_wp2_with fail;refine(HCo.out _ (zF _ _)).mono ?_;rintro e w1 ⟨rfl,hb1⟩;have y3:=(hb1.cell (p:=⟨gc,k*2,none⟩) lc).trans y1;have y4:=(hb1.cell (p:=⟨gc,k*2+1,none⟩) lc).trans y2;go_wp2_with fail;refine(HU1.out _).mono ?_;rintro e w2 ⟨rfl,hb2⟩;have hB2:=zA hb1 hb2;go_wp2_with fail;obtain⟨w3,hw3⟩:∃w3,w2.alloc (Obj.cells #[Value.int IntKind.i64 s1,Value.int IntKind.i64 n1] 179)=w3:=⟨_,rfl⟩;have hb3:Below w2.heap.size w2 w3:=by rw[←hw3];exact(zF _ _).alloc (zD _) _
  have C3:Blk w3 w2.heap.size [.int .i64 s1,.int .i64 n1] 179:=by rw[←hw3];exact Blk.new w2 _ _
  have hB3:=zA hB2 hb3;have hC3:Cells w3 [(⟨w2.heap.size,0,none⟩,.int .i64 s1),(⟨w2.heap.size,1,none⟩,.int .i64 n1)]:=⟨C3.cell 0,C3.cell 1,yF⟩;rw[hw3];refine zuL 3 2 [(U,[U,zuH,U]),(zuH,[zuH,U])] (Keeps w3 [(⟨w2.heap.size,0,none⟩,.int .i64 s1),(⟨w2.heap.size,1,none⟩,.int .i64 n1)]) (by kernel_rfl) (Keeps.start hC3) (fun Y Q4 F4 hY hF=> ?_);simp only[zuJ]
  repeat
   apply zJ (by rw[hY];rfl)
   ·intro w2 hS2;(try simp only[Keeps,zbT,Cells]at hS2);go_simp;with_reducible rfl
   simp only[zuI]
  apply zR (by rw[hY];rfl)
  ·go_simp;with_reducible exact⟨rfl,rfl⟩
  refine(HCo.out _ (zA hB3 (Keeps.start hC3).1)).mono ?_;rintro e w4 ⟨rfl,hb4⟩;refine⟨_,rfl,(Keeps.start hC3).step hb4,?_⟩;simp only[zuI];refine yE (hF.out _ _ (fun K hK=> ?_));clear hF hY;have hB4:Below w.heap.size w w4:=zA hB3 (zA (Keeps.start hC3).1 hb4);have S4:=HSt.out.step hB4;have g1:=S4.oc.free (k*2);have g2:=S4.oc.free (k*2+1);have y5:=(hB4.cell (p:=⟨gc,k*2,none⟩) lc).trans y1;have y6:=(hB4.cell (p:=⟨gc,k*2+1,none⟩) lc).trans y2;have S5:=zB (S4.putC k H16.out s1 n1);have hB5:Below B w ((w4.setCell ⟨gc,k*2,none⟩ (.int .i64 s1)).setCell ⟨gc,k*2+1,none⟩ (.int .i64 n1)):=((hB4.mono hBw).setCell (p:=⟨gc,k*2,none⟩) hgc _).setCell (p:=⟨gc,k*2+1,none⟩) hgc _;clear y3 y4 hC3 S4;go_wp2_with fail;refine OnlyK.mk (hK.out _ _ ?_);clear hK;go_wp2_with fail
  first
   | (go_returns;exact⟨rfl,S5.out,hB5⟩)
   | (refine(end12_any S _ _ _ _ _ _ _ _ _ _ S5.out.blk).mono ?_;rintro e w6 ⟨rfl,rfl⟩;go_wp2_with fail;go_returns;exact⟨rfl,(S5.out.put (m':={m with ctrs:=m.ctrs.set k (s1,n1),at_:=0}) 4 _ rfl rfl rfl rfl).put (m':={m with ctrs:=m.ctrs.set k (s1,n1),at_:=0,len:=0}) 5 _ rfl rfl rfl rfl,(hB5.setCell (p:=⟨S,4,none⟩) hS _).setCell (p:=⟨S,5,none⟩) hS _⟩)
end Go.Proofs.YtahaacfikalheaaGreat
namespace Go.Proofs.YtahaacfikalheaaGreat
open Go.RowKit
theorem foldl_take(f:Nat→Int→Nat)(z:Nat)(ys:List Int)(k:Nat)(hk:k<ys.length):(ys.take (k+1)).foldl f z=f ((ys.take k).foldl f z) (ys.getD k 0):=by
 rw[List.take_succ_eq_append_getElem hk,List.foldl_append,S12.getD_in _ _ hk];rfl
theorem S12.hash_take{ys:List Int}{k:Nat}(hk:k<ys.length):S12.hash (ys.take (k+1))=(S12.hash (ys.take k)+(ys.getD k 0).toNat+1)*S12.factor%4294967296:=by
 unfold S12.hash;exact foldl_take _ 0 ys k hk
theorem mul_mod_cast(H x f M:Nat)(fi Mi:Int)(hf:(f:Int)=fi)(hM:(M:Int)=Mi):(((H:Int)+(x:Int)+1)%Mi*fi)%Mi=(((H+x+1)*f%M:Nat):Int):=by
 subst hf hM;have e:(H:Int)+(x:Int)+1=((H+x+1:Nat):Int):=by omega
 rw[e,←Int.natCast_emod,←Int.natCast_mul,←Int.natCast_emod,Nat.mod_mul_mod]
theorem div_cast(H n:Nat):(H:Int)/2^n=((H/2^n:Nat):Int):=by rw[Int.natCast_ediv,Int.natCast_pow];rfl
theorem index12_any(B S gh gc:Nat)(m:S12.M)(p:Pl)(w:World)(h:St B S gh gc m p w)(hbits:1≤m.bits∧m.bits≤16)(hle:1≤m.least∧m.least≤32)(hlen:m.least≤m.bytes.length)(hmax:m.bytes.length≤65537)(hbyt:S12.Byt m.bytes) :
 Calls Tryz.prog 180 #[.pointer (some ⟨S,0,none⟩)] w fun e w'=>e = .returned (.int .i64 (S12.idx m.bytes m.bits m.least:Int))∧Below w.heap.size w w':=by
 obtain⟨x0,x1,x2,x3,x4,x5,x6,x7,x8⟩:=h.blk.nine;have hrd:=Rd.of_owns h.ob;have hcap:m.bytes.length≤p.cb:=by
  obtain⟨a,c,e,h1,h2⟩:=zaX h.ob;simp at e;omega
 clear h;obtain⟨bits,least,heads,bytes,at_,len,part,bit,ctrs⟩:=m;simp only at *;obtain⟨L,hL⟩:∃L:Nat,least=L:=⟨least.toNat,by omega⟩;subst hL;obtain⟨n,hn⟩:∃n:Nat,bits=n:=⟨bits.toNat,by omega⟩;subst hn;obtain⟨g,o,hab,hcs⟩:=zqY hrd (i:=0) (by omega);rw[hab]at x3;clear hrd hab x2 x4 x5 x6 x7 x8;obtain⟨st,hst⟩:∃st:Nat,st=bytes.length-L:=⟨_,rfl⟩;obtain⟨ys,hys⟩:∃ys:List Int,bytes.drop st=ys:=⟨_,rfl⟩;have hyl:ys.length=L:=by rw[←hys,zgS];omega
 have hcy:∀j,j<L→w.cell? ⟨g,o+st+j,none⟩=some (.int .u8 (ys.getD j 0)):=fun j hj=>by
  rw[zbR,hcs (st+j) (by omega),←hys,List.getD,List.getD,List.getElem?_drop]
 have hyb:∀j,0≤ys.getD j 0∧ys.getD j 0<256:=fun j=>by
  have e:ys.getD j 0=bytes.getD (st+j) 0:=by rw[←hys,List.getD,List.getD,List.getElem?_drop]
  rw[e];exact⟨hbyt.get _,by have:=hbyt.at (st+j);have:=hbyt.get (st+j);omega⟩
 have hidx:S12.idx bytes (n:Int) (L:Int)=S12.hash ys/2^(32-n):=by
  unfold S12.idx;rw[Int.toNat_natCast,Int.toNat_natCast,←hst,hys]
 rw[hidx];obtain⟨q,hq⟩:∃q,S12.hash ys/2^(32-n)=q:=⟨_,rfl⟩;rw[hq];have Hq:=zB hq;clear hq;have hC:Cells w [(⟨S,3,none⟩,.slice (some ⟨g,o,none⟩) bytes.length p.cb),(⟨S,1,none⟩,.int .i64 (L:Int))]:=⟨x3,x1,yF⟩;have hw1:IntKind.i64.wrap ((bytes.length:Int)-(L:Int))=(st:Int):=by rw[IntWalk.i64_in _ (by omega)];omega
 have hsl:(bytes.length:Int)-(st:Int)=(L:Int):=by omega
 have hsn:bytes.length-st=L:=by omega
 have hcne:¬p.cb=st:=by omega
 have hstl:st≤bytes.length:=by omega
 clear hidx hys hcs hst;go_enter Tryz.func180,Tryz.ntmps180;go_wp2_with fail;refine zuL 20 0 [(U,[U,U,U,U,U,U,U,U,U,U,U,U,U,U,U,U,U,U,U,U])] (Keeps w [(⟨S,3,none⟩,.slice (some ⟨g,o,none⟩) bytes.length p.cb),(⟨S,1,none⟩,.int .i64 (L:Int))]) (by kernel_rfl) (Keeps.start hC) (fun Y Q4 F4 hY hF=> ?_);simp only[zuJ]
 repeat
  apply zJ (by rw[hY];rfl)
  ·intro w2 hS2;(try simp only[Keeps,Cells]at hS2);go_simp;with_reducible rfl
  simp only[zuI]
 refine yE (hF.out _ _ (fun K hK=> ?_));clear hF hY;go_wp2_with fail;refine OnlyK.mk (hK.out _ _ ?_);clear hK hC x3 hw1 hsl hsn hcne hstl;go_wp2_with fail;go_loopw [3,25] (fun h i wr=>∃k:Nat,k≤L∧i = .int .i64 (k:Int)∧h = .int .u32 (S12.hash (ys.take k):Int)∧Below w.heap.size w wr) (fun _ i _=>L-(intOf i).toNat)
 case atStart=>exact⟨0,by omega,rfl,rfl,(zF _ w).drew⟩
 case round=>
  obtain⟨k,hk,rfl,rfl,hB⟩:=hrel;have zr:w.heap.size≤wr.heap.size:=hB.size;by_cases hlt:k<L
  ·have hcc:=(hB.cell (p:=⟨g,o+st+k,none⟩) (zL (hcy k hlt))).trans (hcy k hlt);have HT:=zB (S12.hash_take (ys:=ys) (k:=k) (by omega));have hHl:=S12.hash_lt (ys.take k);obtain⟨H,hH⟩:∃H,S12.hash (ys.take k)=H:=⟨_,rfl⟩;obtain⟨x,hx⟩:∃x:Nat,ys.getD k 0=x:=⟨(ys.getD k 0).toNat,by have:=hyb k;omega⟩;have hx2:x<256:=by have:=hyb k;omega
   rw[hH,hx,Int.toNat_natCast]at HT;rw[hH]at hHl⊢;rw[hx]at hcc;have hm:=mul_mod_cast H x S12.factor 4294967296 2654435761 4294967296 rfl rfl;obtain⟨H',hH'⟩:∃H',(H+x+1)*S12.factor%4294967296=H':=⟨_,rfl⟩;rw[hH']at hm HT;clear hx hH hyb hcy hH';go_wp2_with fail;go_roundw
   case rel=>exact⟨k+1,by omega,by go_num,by rw[HT.out,hm],hB⟩
   case measure=>simp[intOf];omega
  ·obtain rfl:k=L:=by omega
   have e:ys.take k=ys:=zeM (by omega);rw[e];have hHl:=S12.hash_lt ys;have x0r:=(hB.cell (p:=⟨S,0,none⟩) (zL x0)).trans x0;have hq:=Hq.out;obtain⟨H,hH⟩:∃H,S12.hash ys=H:=⟨_,rfl⟩;rw[hH]at hHl hq⊢;have hw:=div_cast H (32-n);have hq2:q<4294967296:=by rw[←hq];exact Nat.lt_of_le_of_lt (Nat.div_le_self _ _) hHl
   rw[hq]at hw;clear hcy hyb hH e hq;go_wp2_with fail;go_returns;exact⟨rfl,hB⟩
end Go.Proofs.YtahaacfikalheaaGreat
namespace Go.Proofs.YtahaacfikalheaaGreat
open Go.RowKit
theorem search12_any(B S gh gc:Nat)(m:S12.M)(p:Pl)(w:World)(h:St B S gh gc m p w)(hbits:1≤m.bits∧m.bits≤16)(hle:1≤m.least∧m.least≤32)(hmax:m.bytes.length≤65537)(hbyt:S12.Byt m.bytes)
 (hhl:m.heads.length=2^m.bits.toNat) (hhd:∀x∈m.heads,0≤x∧x≤m.bytes.length) :
 Calls Tryz.prog 172 #[.pointer (some ⟨S,0,none⟩)] w fun e w'=>e = .returned (.tuple #[])∧St B S gh gc (S12.search m) p w'∧Below B w w'∧KeepF w w':=by
 have hS:=h.hs;have hBw:B≤w.heap.size:=yC hS (Nat.le_of_lt h.blk.lt);obtain⟨x0,x1,x2,x3,x4,x5,x6,x7,x8⟩:=h.blk.nine;have lS:=h.blk.lt;have hHSt:=h;have HSt:=zB hHSt;have HI:=zB fun W (hb:Below w.heap.size w W) (hlen:m.least≤m.bytes.length)=>index12_any B S gh gc m p W (h.step hb) hbits hle hlen hmax hbyt;have hbN:m.bytes.length<9223372036854775808:=by omega
 have hC:Cells w [(⟨S,3,none⟩,.slice p.ab m.bytes.length p.cb),(⟨S,1,none⟩,.int .i64 m.least)]:=⟨x3,x1,yF⟩
 have HR:=zB fun W (hb:Below w.heap.size w W) (q:Nat) (hq:q≤m.bytes.length) (hne:0<m.bytes.length)=>(show Calls Tryz.prog 181 #[.slice p.ab m.bytes.length p.cb,.int .i64 (q:Int)] W fun e w'=>e = .returned (.int .i64 (S12.rep m.bytes q:Int))∧Below W.heap.size W w' by
  have hs:=h.step hb;have hrd:=Rd.of_owns hs.ob;obtain⟨g,o,hab,_⟩:=zqY hrd (i:=0) hne;have hcap:m.bytes.length≤p.cb:=by
   obtain⟨a,c,e,h1,h2⟩:=zaX hs.ob;simp at e;omega
  rw[hab]at hrd⊢;exact ziV g o p.cb m.bytes q hq (by omega) hcap hne W hrd)
 by_cases hshort:(m.bytes.length:Int)<m.least
 ·have e0:S12.search m=m:=by unfold S12.search;rw[zO hshort]
  rw[e0];have ed:decide ((m.bytes.length:Int)<m.least)=true:=zQ hshort;clear HI HR hHSt h e0;go_enter Tryz.func172,Tryz.ntmps172;go_wp2_with fail;refine zuL 12 0 [(U,[U,U,U,U,U,U,U,U,U,U,U,U])] (Keeps w [(⟨S,3,none⟩,.slice p.ab m.bytes.length p.cb),(⟨S,1,none⟩,.int .i64 m.least)]) (by kernel_rfl) (Keeps.start hC) (fun Y Q4 F4 hY hF=> ?_);simp only[zuJ]
  repeat
   apply zJ (by rw[hY];rfl)
   ·intro w2 hS2;(try simp only[Keeps,Cells]at hS2);go_simp;with_reducible rfl
   simp only[zuI]
  refine yE (hF.out _ _ (fun K hK=> ?_));clear hF hY;go_wp2_with fail;refine OnlyK.mk (hK.out _ _ ?_);clear hK;go_wp2_with fail;go_returns;exact⟨rfl,HSt.out.step (zcK _ w),zcK _ w,KeepF.of (zcK _ w)⟩
 have ed:decide ((m.bytes.length:Int)<m.least)=false:=yD hshort;obtain⟨i,hi⟩:∃i,S12.idx m.bytes m.bits m.least=i:=⟨_,rfl⟩;have hil:i<m.heads.length:=by rw[←hi,hhl];exact S12.idx_lt _ _ hbits
 obtain⟨hd,hhdd⟩:∃hd,m.heads.getD i 0=hd:=⟨_,rfl⟩;have hhr:0≤hd∧hd≤m.bytes.length:=hhd hd (by rw[←hhdd,S12.getD_in _ _ hil];exact zbC hil);obtain⟨q,hq⟩:∃q:Nat,hd=q:=⟨hd.toNat,by omega⟩;subst hq;have hfound:S12.found m=(decide (m.len=0)&&decide (0<(q:Int))&&decide (m.least≤(S12.rep m.bytes q:Int))):=by
  unfold S12.found;rw[hi,hhdd,Int.toNat_natCast]
 have hsearch:S12.search m = {m with at_:=if S12.found m then(q:Int)else m.at_,len:=if S12.found m then(S12.rep m.bytes q:Int)else m.len,heads:=m.heads.set i m.bytes.length}:=by
  unfold S12.search;rw[zG hshort,hi,hhdd,Int.toNat_natCast]
 have yh:w.cell? ⟨gh,i,none⟩=some (.int .i64 (q:Int)):=by
  rw[h.oh.cell (by rw[yM];exact hil),←hhdd,S12.getD_in _ _ hil];simp[zaK]
 have lh:=h.oh.lt;have hgh:=h.hh;rw[hi]at HI;have HI:=zB fun W hb=>HI.out W hb (by omega);have HR:=zB fun W hb=>HR.out W hb q (by omega) (by omega);obtain⟨rp,hrp⟩:∃rp,S12.rep m.bytes q=rp:=⟨_,rfl⟩;rw[hrp]at hfound hsearch HR;rw[hsearch];have hph:=h.ph;have hhm:m.heads.length≤65536:=by rw[hhl];exact zdA (n:=2) (by omega) (show m.bits.toNat≤16 by omega)
 have hi9:i<65536:=by omega
 have Hil:=zB hil;rw[hph]at x2;clear hsearch hhdd hhd hhl hi hrp h hHSt hph hmax;obtain⟨fd,hfd⟩:∃fd,S12.found m=fd:=⟨_,rfl⟩;rw[hfd]at hfound⊢;clear hfd;have hq9:(q:Int)<9223372036854775808:=by omega
 go_enter Tryz.func172,Tryz.ntmps172;go_wp2_with fail;refine zuL 12 0 [(U,[U,U,U,U,U,U,U,U,U,U,U,U])] (Keeps w [(⟨S,3,none⟩,.slice p.ab m.bytes.length p.cb),(⟨S,1,none⟩,.int .i64 m.least)]) (by kernel_rfl) (Keeps.start hC) (fun Y Q4 F4 hY hF=> ?_);simp only[zuJ]
 repeat
  apply zJ (by rw[hY];rfl)
  ·intro w2 hS2;(try simp only[Keeps,Cells]at hS2);go_simp;with_reducible rfl
  simp only[zuI]
 refine yE (hF.out _ _ (fun K hK=> ?_));clear hF hY;go_wp2_with fail;refine OnlyK.mk (hK.out _ _ ?_);clear hK;obtain⟨w1,hw1⟩:∃w1,w.drew=w1:=⟨_,rfl⟩;have hb1:Below w.heap.size w w1:=by rw[←hw1];exact zcK _ w
 rw[hw1];clear hC hw1;have S1:=HSt.out.step hb1;have z2:w1.cell? ⟨S,2,none⟩=some (.slice (some ⟨gh,0,none⟩) m.heads.length p.ch):=(S1.blk.cell 2).trans (by rw[←S1.ph];rfl);have hC1:Cells w1 [(⟨S,2,none⟩,.slice (some ⟨gh,0,none⟩) m.heads.length p.ch)]:=⟨z2,yF⟩;clear S1;go_wp2_with fail;refine zuL 8 1 [(U,[U,U,U,U,U,U]),(zuH,[zuH,zuH,zuH,zuH,zuH,zuH,U]),(U,[zuH,zuH,zuH,zuH,zuH,zuH,zuH,U])] (Keeps w1 [(⟨S,2,none⟩,.slice (some ⟨gh,0,none⟩) m.heads.length p.ch)]) (by kernel_rfl) (Keeps.start hC1) (fun Y Q4 F4 hY hF=> ?_);simp only[zuJ]
 repeat
  apply zJ (by rw[hY];rfl)
  ·intro w2 hS2;(try simp only[Keeps,Cells]at hS2);go_simp;with_reducible rfl
  simp only[zuI]
 apply zR (by rw[hY];rfl)
 ·go_simp;with_reducible exact⟨rfl,rfl⟩
 refine(HI.out _ (zA hb1 (Keeps.start hC1).1)).mono ?_;rintro e w2 ⟨rfl,hb2⟩;refine⟨_,rfl,(Keeps.start hC1).step hb2,?_⟩;simp only[zuI]
 repeat
  apply zJ (by rw[hY];rfl)
  ·intro w2 hS2;(try simp only[Keeps,Cells]at hS2);go_simp;with_reducible rfl
  simp only[zuI]
 refine yE (hF.out _ _ (fun K hK=> ?_));clear hF hY;go_wp2_with fail;refine OnlyK.mk (hK.out _ _ ?_);clear hK;have hB2:Below w.heap.size w w2:=zA hb1 (zA (Keeps.start hC1).1 hb2);clear hC1 z2 hb2;have S2:=HSt.out.step hB2;obtain⟨x0,x1,x2,x3,x4,x5,x6,x7,x8⟩:=S2.blk.nine;have yh2:=(hB2.cell (p:=⟨gh,i,none⟩) lh).trans yh;have fh2:=S2.oh.free i;have f4:=S2.blk.free 4;have f5:=S2.blk.free 5;have S2:=zB S2;have Hle:=zB hle;clear hhr hq9 hle hbits ed hshort hi9 hhm;cases e0:decide (m.len=0)with
 | false=>
   rw[e0,Bool.false_and,Bool.false_and]at hfound;subst hfound;have e1:(m.len==0)=false:=by have:=of_decide_eq_false e0;simp[this]
   have S3:=zB (S2.out.putH i Hil.out m.bytes.length);clear e0;go_wp2_with fail;go_returns;exact⟨rfl,S3.out,(hB2.mono hBw).setCell (p:=⟨gh,i,none⟩) hgh _,(KeepF.of hB2).trans (KeepF.setO S2.out.oh (by decide))⟩
 | true=>
   have e1:(m.len==0)=true:=by have:=zaV e0;simp[this]
   rw[e0,zcN]at hfound;rcases zeC q with hq0|hq0
   ·rw[show decide (0<(q:Int))=false from yD (by omega),Bool.false_and]at hfound;subst hfound;subst hq0;clear e0;have S3:=zB (S2.out.putH i Hil.out m.bytes.length);go_wp2_with fail;go_returns;exact⟨rfl,S3.out,(hB2.mono hBw).setCell (p:=⟨gh,i,none⟩) hgh _,(KeepF.of hB2).trans (KeepF.setO S2.out.oh (by decide))⟩
   ·rw[show decide (0<(q:Int))=true from zQ (by omega),zcN]at hfound;clear e0;have hC2:Cells w2 [(⟨S,3,none⟩,.slice p.ab m.bytes.length p.cb),(⟨gh,i,none⟩,.int .i64 (q:Int))]:=⟨x3,yh2,yF⟩;go_wp2_with fail;refine zuL 9 1 [(U,[U,U,U,U,U,U,U,U]),(zuH,[zuH,zuH,zuH,zuH,zuH,zuH,zuH,zuH,U])] (Keeps w2 [(⟨S,3,none⟩,.slice p.ab m.bytes.length p.cb),(⟨gh,i,none⟩,.int .i64 (q:Int))]) (by kernel_rfl) (Keeps.start hC2) (fun Y Q4 F4 hY hF=> ?_);simp only[zuJ]
    repeat
     apply zJ (by rw[hY];rfl)
     ·intro w2 hS2;(try simp only[Keeps,Cells]at hS2);go_simp;with_reducible rfl
     simp only[zuI]
    apply zR (by rw[hY];rfl)
    ·go_simp;with_reducible exact⟨rfl,rfl⟩
    refine(HR.out _ (zA hB2 (Keeps.start hC2).1)).mono ?_;rintro e w3 ⟨rfl,hb3⟩;refine⟨_,rfl,(Keeps.start hC2).step hb3,?_⟩;simp only[zuI];refine yE (hF.out _ _ (fun K hK=> ?_));clear hF hY;go_wp2_with fail;refine OnlyK.mk (hK.out _ _ ?_);clear hK;have hB3:Below w.heap.size w w3:=zA hB2 (zA (Keeps.start hC2).1 hb3);have lS2:=S2.out.blk.lt;have lh2:=S2.out.oh.lt;have hne:¬S=gh:=fun e=>S2.out.oh.ne S2.out.blk (by decide) e.symm;have hne2:¬gh=S:=fun e=>hne e.symm;clear hC2 hb3 x0 x1 x2 x3 x4 x5 x6 x7 x8 yh2 fh2 f4 f5 S2 e1;have S3:=HSt.out.step hB3;obtain⟨x0,x1,x2,x3,x4,x5,x6,x7,x8⟩:=S3.blk.nine;have yh3:=(hB3.cell (p:=⟨gh,i,none⟩) lh).trans yh;have fh3:=S3.oh.free i;have f4:=S3.blk.free 4;have f5:=S3.blk.free 5;have S3:=zB S3;cases fd with
    | true=>
      have e4:decide (m.least≤(rp:Int))=true:=hfound.symm;have S4:=zB (((S3.out.put (m':={m with at_:=(q:Int)}) 4 _ rfl rfl rfl rfl).put (m':={m with at_:=(q:Int),len:=(rp:Int)}) 5 _ rfl rfl rfl rfl).putH i Hil.out m.bytes.length);clear hfound x0 x6 x7 x8 x2;go_wp2_with fail;go_returns
      exact⟨rfl,S4.out,(((hB3.mono hBw).setCell (p:=⟨S,4,none⟩) hS _).setCell (p:=⟨S,5,none⟩) hS _).setCell (p:=⟨gh,i,none⟩) hgh _,
       (KeepF.of hB3).trans ((KeepF.set S3.out.blk (by decide)).trans ((KeepF.set (S3.out.blk.set 4 _) (by decide)).trans (KeepF.setO ((S3.out.oh.other S 4 _ (S3.out.oh.ne S3.out.blk (by decide))).other S 5 _ (S3.out.oh.ne S3.out.blk (by decide))) (by decide))))⟩
    | false=>
      have e4:decide (m.least≤(rp:Int))=false:=hfound.symm;have S4:=zB (S3.out.putH i Hil.out m.bytes.length);clear hfound x0 x6 x7 x8 x2;go_wp2_with fail;go_returns;exact⟨rfl,S4.out,(hB3.mono hBw).setCell (p:=⟨gh,i,none⟩) hgh _,(KeepF.of hB3).trans (KeepF.setO S3.out.oh (by decide))⟩
end Go.Proofs.YtahaacfikalheaaGreat
namespace Go.Proofs.YtahaacfikalheaaGreat
open Go.RowKit
theorem Cts_one(xs:List (Int×Int)):∀u∈Cts xs,u.oneCell'=true:=by
 intro u hu;simp only[Cts,List.mem_flatMap]at hu;obtain⟨x,_,hu⟩:=hu;simp at hu;rcases hu with rfl|rfl<;>rfl
theorem Own.of_owns{w:World}{base:Nat}{e:TypeId}{size n cap:Nat}{a:Option Addr}{xs:List Value}(h:w.ownsRow base e size (.slice a n cap) n xs)(hne:1≤n)(hs:1≤size):∃g,a=some ⟨g,0,none⟩∧base≤g∧Own w g e xs:=by
 rcases h.2 with⟨h',h0⟩|⟨g,cap',cur,h',hbg,hg,hnc,hcm,hcs,htake⟩
 ·omega
 ·simp only[Value.slice.injEq,true_and]at h';obtain⟨rfl,rfl⟩:=h';refine⟨g,rfl,hbg,cur.toList.drop xs.length,?_⟩;have:cur.toList=xs++cur.toList.drop xs.length:=by
   rw[←htake]
   conv=>lhs;rw[←yB (n*size) cur.toList]
   congr 2
   rw[yJ];have:cur.toList.length=cap*size:=by simpa using hcs
   have:=yW size hnc;omega
  rw[←this];exact hg
theorem ziA(xs:List Int)(a:Option Addr)(cap:Nat)(w:World)(h1:1≤xs.length)(h2:xs.length≤65536)(hrd:Rd w a (zaK xs)) :
 Calls Tryz.prog 169 #[.slice a xs.length cap] w fun e w'=>∃b cap',e = .returned (.slice (some ⟨b,0,none⟩) xs.length cap')∧w.heap.size≤b∧Own w' b 3 (zaK xs)∧Below w.heap.size w w':=by
 obtain⟨g,o,rfl,_⟩:=hrd.at (i:=0) (by rw[yM];omega);have qT:∀(w:World) (a:Option Addr) (n c n' c':Nat),(binOp .eql 69 (.slice a n c) (.slice none n' c')).run Tryz.prog w = .ok (.bool a.isNone) w:=fun w a n c n' c'=>Lib.run_eql_slice_nil w _ _ a n c n' c' Tryz.underlying69;have hrd':=zB (hrd.step ((zF w.heap.size w).alloc (zD _) (Obj.cells #[] 3)));go_enter Tryz.func169,Tryz.ntmps169;go_wp2_with (at_builtin;refine zaL _ _ 69 3 1 8 _ w.heap.size zqE rfl rfl _ 0 [] rfl (World.ownsRow_made w #[] 0 (zD _) (by decide) rfl) (some ⟨g,o,none⟩) xs.length cap (zaK xs) rfl (by simp[zaK]) hrd'.out (zlG xs) (by unfold maxLen;omega) (by omega) (by simp) ?_;intro a2 cap2 w2 hown2 hgrow2);have hB2:Below w.heap.size w w2:=Below.grown (by go_grown) hgrow2 (by simp) (fun k e=>by cases e;exact zD _);simp only[yK,lna]at hown2;obtain⟨b,rfl,hb,hok⟩:=Own.of_owns hown2 h1 (by decide);have hc:=zB hok;clear hgrow2 hown2 hok;go_wp2;go_returns;exact⟨b,cap2,by simp,hb,hc.out,hB2⟩
theorem ziZ(xs:List (Int×Int))(a:Option Addr)(cap:Nat)(w:World)(h1:1≤xs.length)(h2:xs.length≤65536)(hrd:Rd w a (Cts xs)) :
 Calls Tryz.prog 127 #[.slice a xs.length cap] w fun e w'=>∃b cap',e = .returned (.slice (some ⟨b,0,none⟩) xs.length cap')∧w.heap.size≤b∧Own w' b 179 (Cts xs)∧Below w.heap.size w w':=by
 obtain⟨g,o,rfl,_⟩:=hrd.at (i:=0) (by rw[zbY];omega);have qT:∀(w:World) (a:Option Addr) (n c n' c':Nat),(binOp .eql 66 (.slice a n c) (.slice none n' c')).run Tryz.prog w = .ok (.bool a.isNone) w:=fun w a n c n' c'=>Lib.run_eql_slice_nil w _ _ a n c n' c' Tryz.underlying66;have hrd':=zB (hrd.step ((zF w.heap.size w).alloc (zD _) (Obj.cells #[] 179)));go_enter Tryz.func127,Tryz.ntmps127;go_wp2_with (at_builtin;refine zaL _ _ 66 179 2 16 _ w.heap.size zsM rfl rfl _ 0 [] rfl (World.ownsRow_made w #[] 0 (zD _) (by decide) rfl) (some ⟨g,o,none⟩) xs.length cap (Cts xs) rfl (by rw[zbY]) hrd'.out (Cts_one xs) (by unfold maxLen;omega) (by omega) (by simp) ?_;intro a2 cap2 w2 hown2 hgrow2);have hB2:Below w.heap.size w w2:=Below.grown (by go_grown) hgrow2 (by simp) (fun k e=>by cases e;exact zD _);simp only[yK,lna]at hown2;obtain⟨b,rfl,hb,hok⟩:=Own.of_owns hown2 h1 (by decide);have hc:=zB hok;clear hgrow2 hown2 hok;go_wp2;go_returns;exact⟨b,cap2,by simp,hb,hc.out,hB2⟩
theorem zfJ(xs:List Int)(a:Option Addr)(cap:Nat)(w:World)(h2:xs.length≤65536)(hrd:Rd w a (Bts xs)) :
 Calls Tryz.prog 53 #[.slice a xs.length cap] w fun e w'=>∃a' cap',e = .returned (.slice a' xs.length cap')∧w'.ownsRow w.heap.size 5 1 (.slice a' xs.length cap') xs.length (Bts xs)∧Below w.heap.size w w':=by
 have qT:∀(w:World) (a:Option Addr) (n c n' c':Nat),(binOp .eql 24 (.slice a n c) (.slice none n' c')).run Tryz.prog w = .ok (.bool a.isNone) w:=fun w a n c n' c'=>Lib.run_eql_slice_nil w _ _ a n c n' c' Tryz.underlying24;cases a with
 | none=>
   have hx:xs = []:=by
    cases hxs:xs with
    | nil=>rfl
    | cons x r=>obtain⟨b,o,e,_⟩:=hrd (by rw[hxs];simp[Bts]);cases e
   subst hx;go_enter Tryz.func53,Tryz.ntmps53;go_wp2_with fail;go_returns;exact⟨none,0,rfl,World.ownsRow_nil w _ _ 1,zF _ _⟩
 | some a=>
   have hrd':=zB (hrd.step ((zF w.heap.size w).alloc (zD _) (Obj.cells #[] 5)));go_enter Tryz.func53,Tryz.ntmps53;go_wp2_with (at_builtin;refine zaL _ _ 24 5 1 1 _ w.heap.size zdR rfl rfl _ 0 [] rfl (World.ownsRow_made w #[] 0 (zD _) (by decide) rfl) (some a) xs.length cap (Bts xs) rfl (by simp[Bts]) hrd'.out (Bts_one xs) (by unfold maxLen;omega) (by omega) (by simp) ?_;intro a2 cap2 w2 hown2 hgrow2);have hB2:Below w.heap.size w w2:=Below.grown (by go_grown) hgrow2 (by simp) (fun k e=>by cases e;exact zD _);simp only[yK,lna]at hown2;have hc:=zB hown2;clear hgrow2 hown2;go_wp2;go_returns;exact⟨a2,cap2,by simp,hc.out,hB2⟩
end Go.Proofs.YtahaacfikalheaaGreat
namespace Go.Proofs.YtahaacfikalheaaGreat
open Go.RowKit
theorem St.mis{B S gh gc:Nat}{m:S12.M}{p:Pl}{w:World}(h:St B S gh gc m p w)(hb:S12.Byt m.bytes)(h1:m.heads.length≤65536)(h2:m.bytes.length≤65536)(h3:m.ctrs.length≤65536):MIs m p w:=by
 refine⟨by rw[h.ph];exact h.oh.rd,Rd.of_owns h.ob,by rw[h.pc];exact h.oc.rd,hb,?_,by omega,by omega,by omega⟩;obtain⟨a,c,e,h4,h5⟩:=zaX h.ob;simp at e;omega
theorem owns_base{w:World}{B B':Nat}{e:TypeId}{size n:Nat}{v:Value}{xs:List Value}(h:w.ownsRow B e size v n xs)(hb:B'≤B):w.ownsRow B' e size v n xs:=by
 refine⟨h.1,?_⟩;rcases h.2 with h'|⟨g,cap',cur,h',hb',r⟩
 ·exact .inl h'
 ·exact .inr ⟨g,cap',cur,h',yC hb hb',r⟩
theorem Blk.grownO{w w':World}{b:Nat}{cs:List Value}{t:TypeId}{base n cap:Nat}{e:TypeId}{a:Option Addr}{xs:List Value}(h:Blk w b cs t)(ho:w.ownsRow base e 1 (.slice a n cap) n xs)(he:¬e=t)(hg:w.grownBy w' (Value.slice a n cap).ownBlock):Blk w' b cs t:=by
 have hne:=zbQ ho h he;have hl:=h.lt;obtain⟨_,_,_,_,hk⟩:=hg;unfold Blk at h⊢;rw[hk b hl (fun e=>hne e.symm)];exact h
theorem Own.grownO{w w':World}{g:Nat}{vals:List Value}{t:TypeId}{base n cap:Nat}{e:TypeId}{a:Option Addr}{xs:List Value}(h:Own w g t vals)(ho:w.ownsRow base e 1 (.slice a n cap) n xs)(he:¬e=t)(hg:w.grownBy w' (Value.slice a n cap).ownBlock):Own w' g t vals:=by
 obtain⟨r,h⟩:=h;exact⟨r,h.grownO ho he hg⟩
theorem Bts_app(l:List Int)(y:Int):Bts (l ++ [y])=Bts l ++ [.int .u8 y]:=by simp[Bts]
theorem S12.WF.sizes{m:S12.M}(h:S12.WF m):m.heads.length≤65536∧m.bytes.length≤65536∧m.ctrs.length≤65536:=by
 refine⟨?_,h.few,by have:=h.ctrs;omega⟩;rw[h.heads];exact zdA (n:=2) (by omega) (show m.bits.toNat≤16 by have:=h.bits;omega)
theorem MIs.put9{m:S12.M}{p:Pl}{w:World}(h:MIs m p w){b:Nat}(h1:∀g o,p.ah=some ⟨g,o,none⟩→zaK m.heads≠ []→¬g=b)(h2:∀g o,p.ab=some ⟨g,o,none⟩→Bts m.bytes≠ []→¬g=b)(h3:∀g o,p.ac=some ⟨g,o,none⟩→Cts m.ctrs≠ []→¬g=b)(v0 v1 v2 v3 v4 v5 v6 v7 v8:Value) :
 MIs m p (((((((((w.setCell ⟨b,0,none⟩ v0).setCell ⟨b,1,none⟩ v1).setCell ⟨b,2,none⟩ v2).setCell ⟨b,3,none⟩ v3).setCell ⟨b,4,none⟩ v4).setCell ⟨b,5,none⟩ v5).setCell ⟨b,6,none⟩ v6).setCell ⟨b,7,none⟩ v7).setCell ⟨b,8,none⟩ v8):=
 ⟨h.rdh.put9 h1 _ _ _ _ _ _ _ _ _,h.rdb.put9 h2 _ _ _ _ _ _ _ _ _,h.rdc.put9 h3 _ _ _ _ _ _ _ _ _,h.byt,h.cb,h.lh,h.lb,h.lc⟩
theorem St.apart{B S gh gc:Nat}{m:S12.M}{p:Pl}{w:World}(h:St B S gh gc m p w){r:Nat}(hr:r<B) :
 (∀g o,p.ah=some ⟨g,o,none⟩→zaK m.heads≠ []→¬g=r)∧(∀g o,p.ab=some ⟨g,o,none⟩→Bts m.bytes≠ []→¬g=r)∧(∀g o,p.ac=some ⟨g,o,none⟩→Cts m.ctrs≠ []→¬g=r):=by
 refine⟨fun g o e _=> ?_,fun g o e _=> ?_,fun g o e _=> ?_⟩
 ·rw[h.ph]at e;cases e;have:=h.hh;omega
 ·have:=h.ob.lt g (by rw[e];rfl);omega
 ·rw[h.pc]at e;cases e;have:=h.hc;omega
theorem St.far{B S gh gc:Nat}{m:S12.M}{p:Pl}{w:World}(h:St B S gh gc m p w):Far B p:=by
 refine⟨fun g o e=> ?_,fun g o e=> ?_,fun g o e=> ?_⟩
 ·rw[h.ph]at e;cases e;exact h.hh
 ·exact(h.ob.lt g (by rw[e];rfl)).1
 ·rw[h.pc]at e;cases e;exact h.hc
theorem S12.extend_keeps(m:S12.M):(S12.extend m).bits=m.bits∧(S12.extend m).least=m.least∧(S12.extend m).heads=m.heads∧(S12.extend m).bytes=m.bytes∧(S12.extend m).part=m.part∧(S12.extend m).ctrs=m.ctrs:=by
 unfold S12.extend;split<;>exact⟨rfl,rfl,rfl,rfl,rfl,rfl⟩
theorem S12.search_bytes(m:S12.M):(S12.search m).bytes=m.bytes:=by unfold S12.search;split<;>rfl
theorem S12.Byt.app{l:List Int}{y:Int}(h:S12.Byt l)(hy:0≤y∧y<256):S12.Byt (l ++ [y]):=fun z hz=>by
 rcases List.mem_append.1 hz with hz|hz
 ·exact h z hz
 ·rw[List.mem_singleton.1 hz];exact hy
def S12.stepN(m:S12.M):Nat→S12.M
 | 0=>m
 | 1=>S12.extend m
 | _=>S12.search (S12.extend m)
structure S12.Full(k:S12.M):Prop where
 len:0≤k.len∧k.len≤255
 at_:0≤k.at_∧k.at_≤1000000
 bits:1≤(S12.extend k).bits∧(S12.extend k).bits≤16
 least:1≤(S12.extend k).least∧(S12.extend k).least≤32
 few:(S12.extend k).bytes.length≤65537
 byt:S12.Byt (S12.extend k).bytes
 heads:(S12.extend k).heads.length=2^(S12.extend k).bits.toNat
 head:∀x∈(S12.extend k).heads,0≤x∧x≤(S12.extend k).bytes.length
theorem S12.full_ok{m n:S12.M}{b y:Int}(h:S12.WF m)(hL:S12.Lrn m n b)(hB:S12.Byt m.bytes)(hy:0≤y∧y<256):S12.Full {n with bytes:=n.bytes ++ [y],part:=1}:=by
 obtain⟨e1,e2,e3,e4,e5,e6⟩:=S12.extend_keeps {n with bytes:=n.bytes ++ [y],part:=1};have hfew:=h.few;have hl:(0≤n.len∧n.len≤255)∧(0≤n.at_∧n.at_≤1000000):=by
  rcases hL.alt with⟨a1,a2⟩|⟨a1,a2,a3,a4⟩
  ·omega
  ·have hM:=h.Mat a1;have:=hM.len;have:=hM.at_;omega
 refine⟨hl.1,hl.2,?_,?_,?_,?_,?_,?_⟩
 ·rw[e1];simp only[hL.bits];exact h.bits
 ·rw[e2];simp only[hL.least];exact h.least
 ·rw[e4];simp only[hL.bytes,yN,zcF];omega
 ·rw[e4];simp only[hL.bytes];exact hB.app hy
 ·rw[e3,e1];simp only[hL.heads,hL.bits];exact h.heads
 ·rw[e3,e4];simp only[hL.heads,hL.bytes,yN,zcF];intro x hx;have:=h.head x hx;omega
end Go.Proofs.YtahaacfikalheaaGreat
namespace Go.Proofs.YtahaacfikalheaaGreat
open Go.RowKit
theorem bit12_full(m:S12.M)(p:Pl)(b:Int)(w:World)(hM:MIs m p w)(hE:S12.bitE m b=0)(hfull:128≤m.part) :
 Calls Tryz.prog 165 #[MV m p,.int .i64 b] w fun e w'=>∃p',e = .returned (.tuple #[MV (S12.bitM m b) p',.int .i64 0])∧MIs (S12.bitM m b) p' w'∧Far w.heap.size p'∧Below w.heap.size w w':=by
 have hck:S12.check m=0:=by
  cases h:decide (S12.check m=0)with
  | true=>exact zaV h
  | false=>unfold S12.bitE at hE;rw[zO (of_decide_eq_false h)]at hE;exact hE
 have hWF:=(S12.check_iff m).1 hck;have hbb:b=0∨b=1:=by
  unfold S12.bitE at hE;rw[zG (by rw[hck];simp)]at hE;split at hE
  ·cases hE
  ·omega
 have hroom:¬(128≤m.part∧65536≤m.bytes.length):=by
  unfold S12.bitE at hE;rw[zG (by rw[hck];simp),zG (by omega)]at hE;split at hE
  ·cases hE
  ·assumption
 have HWF':=zB (hWF.bitM hM.byt hbb hE);have HCk:=zB fun W hW=>zfX m p W hW;rw[hck]at HCk;have HW:=zB fun W=>zcO b 0 1 W;rw[show decide (0≤b∧b≤1)=true from zQ (by omega)]at HW;have hlen0:0≤m.len:=by
  rcases(S12.matched_iff m).1 hWF.mat with⟨h,_⟩|h
  ·omega
  ·have:=h.len;omega
 have HLn:=zB fun(B S gh gc:Nat) (p1:Pl) (W:World) (h:St B S gh gc m p1 W)=>zpW B S gh gc m p1 b W h hWF.ctrs hWF.ctr hlen0;have hL:=hWF.learn b;have hps:2^m.bits.toNat≤65536:=zdA (n:=2) (by omega) (show m.bits.toNat≤16 by have:=hWF.bits;omega);have hh1:1≤m.heads.length:=by rw[hWF.heads];exact zcB _
 have hh2:m.heads.length≤65536:=by rw[hWF.heads];exact hps
 have hc16:=hWF.ctrs;have hfew:=hWF.few;have HCi:=zB fun W (h:Rd W p.ah (zaK m.heads))=>ziA m.heads p.ah p.ch W hh1 hh2 h;have HCb:=zB fun W (h:Rd W p.ab (Bts m.bytes))=>zfJ m.bytes p.ab p.cb W hfew h;have HCc:=zB fun W (h:Rd W p.ac (Cts m.ctrs))=>ziZ m.ctrs p.ac p.cc W (by omega) (by omega) h;have dc:decide (128≤m.part)=true:=by simp;omega
 have dl:decide (65536≤(m.bytes.length:Int))=false:=by simp;omega
 have HHWF:=zB hWF;have HM:=zB hM;have HLrn:=zB hL;have hB0:Below w.heap.size w ((w.alloc (.cells (zbJ m p).toArray 71)).alloc (.cells #[.int .i64 0,.int .i64 0,.slice none 0 0,.slice none 0 0,.int .i64 0,.int .i64 0,.int .i64 0,.int .i64 0,.slice none 0 0] 71)):=by go_grown
 have A0:Blk ((w.alloc (.cells (zbJ m p).toArray 71)).alloc (.cells #[.int .i64 0,.int .i64 0,.slice none 0 0,.slice none 0 0,.int .i64 0,.int .i64 0,.int .i64 0,.int .i64 0,.slice none 0 0] 71)) w.heap.size (zbJ m p) 71:=(Blk.new w _ _).alloc _;have R0:Blk ((w.alloc (.cells (zbJ m p).toArray 71)).alloc (.cells #[.int .i64 0,.int .i64 0,.slice none 0 0,.slice none 0 0,.int .i64 0,.int .i64 0,.int .i64 0,.int .i64 0,.slice none 0 0] 71)) (w.heap.size+1) [.int .i64 0,.int .i64 0,.slice none 0 0,.slice none 0 0,.int .i64 0,.int .i64 0,.int .i64 0,.int .i64 0,.slice none 0 0] 71:=by
  have h:=Blk.new (w.alloc (.cells (zbJ m p).toArray 71)) [.int .i64 0,.int .i64 0,.slice none 0 0,.slice none 0 0,.int .i64 0,.int .i64 0,.int .i64 0,.int .i64 0,.slice none 0 0] 71;simpa using h
 clear hE hck hWF hM hL hps hh1 hh2 hc16 hroom hfew hlen0;obtain⟨mR,hmR⟩:∃mR,S12.bitM m b=mR:=⟨_,rfl⟩;rw[hmR]at HWF'⊢;have HmR:=zB hmR;clear hmR;unfold MV at HCk;unfold zbJ at HCk A0 R0 hB0;show Calls Tryz.prog 165 #[.agg #[.int .i64 m.bits,.int .i64 m.least,.slice p.ah m.heads.length p.ch,.slice p.ab m.bytes.length p.cb,.int .i64 m.at_,.int .i64 m.len,.int .i64 m.part,.int .i64 m.bit,.slice p.ac m.ctrs.length p.cc],.int .i64 b] w _;go_enter Tryz.func165,Tryz.ntmps165;obtain⟨x0,x1,x2,x3,x4,x5,x6,x7,x8⟩:=A0.nine;obtain⟨w0,hw0⟩:∃w0,((w.alloc (.cells #[.int .i64 m.bits,.int .i64 m.least,.slice p.ah m.heads.length p.ch,.slice p.ab m.bytes.length p.cb,.int .i64 m.at_,.int .i64 m.len,.int .i64 m.part,.int .i64 m.bit,.slice p.ac m.ctrs.length p.cc] 71)).alloc (.cells #[.int .i64 0,.int .i64 0,.slice none 0 0,.slice none 0 0,.int .i64 0,.int .i64 0,.int .i64 0,.int .i64 0,.slice none 0 0] 71))=w0:=⟨_,rfl⟩;rw[hw0]at hB0 A0 R0 x0 x1 x2 x3 x4 x5 x6 x7 x8;go_wp2_with fail;refine(HCk.out _ (HM.out.step hB0)).mono ?_;rintro e w1 ⟨rfl,hb1⟩;have hB1:=zA hB0 hb1;go_wp2_with fail;refine(HW.out _).mono ?_;rintro e w2 ⟨rfl,hb2⟩;have hB2:=zA hB1 hb2;have A2:=(A0.step hb1).step hb2;have R2:=(R0.step hb1).step hb2;clear x0 x1 x2 x3 x4 x5 x6 x7 x8 A0 R0 hw0;obtain⟨x0,x1,x2,x3,x4,x5,x6,x7,x8⟩:=A2.nine;go_wp2_with fail;obtain⟨S,hS⟩:∃S,w2.heap.size=S:=⟨_,rfl⟩;obtain⟨w3,hw3⟩:∃w3,w2.alloc (.cells #[.int .i64 m.bits,.int .i64 m.least,.slice p.ah m.heads.length p.ch,.slice p.ab m.bytes.length p.cb,.int .i64 m.at_,.int .i64 m.len,.int .i64 m.part,.int .i64 m.bit,.slice p.ac m.ctrs.length p.cc] 225)=w3:=⟨_,rfl⟩;have hb3:Below w2.heap.size w2 w3:=by rw[←hw3];exact(zF _ _).alloc (zD _) _
 have S3:Blk w3 S [.int .i64 m.bits,.int .i64 m.least,.slice p.ah m.heads.length p.ch,.slice p.ab m.bytes.length p.cb,.int .i64 m.at_,.int .i64 m.len,.int .i64 m.part,.int .i64 m.bit,.slice p.ac m.ctrs.length p.cc] 225:=by rw[←hw3,←hS];exact Blk.new w2 _ _
 have hB3:=zA hB2 hb3;have A3:=A2.step hb3;have R3:=R2.step hb3;have hwS:w.heap.size+1<S:=by rw[←hS];exact R2.lt
 have hC3:zbT [(⟨w.heap.size,2,none⟩,.slice p.ah m.heads.length p.ch),(⟨w.heap.size,3,none⟩,.slice p.ab m.bytes.length p.cb),(⟨w.heap.size,8,none⟩,.slice p.ac m.ctrs.length p.cc)] w3:=⟨A3.cell 2,A3.cell 3,A3.cell 8,yF⟩;rw[hw3,hS];clear x0 x1 x2 x3 x4 x5 x6 x7 x8 A2 R2 hw3 hb3 dc;refine zuL 24 0 [(U,[U,U,U,U,U,zuH,U,U,zuH,U,U]),(zuH,[zuH,zuH,zuH,zuH,zuH,U]),(zuH,[zuH,zuH,zuH,zuH,zuH,zuH,zuH,zuH,U]),(zuH,[zuH,zuH,zuH,zuH,zuH,zuH,zuH,zuH,zuH,zuH,zuH,U]),(U,[zuH,zuH,zuH,zuH,zuH,zuH,zuH,zuH,zuH,zuH,zuH,zuH,U,U,U]),(zuH,[zuH,zuH,zuH,zuH,zuH,zuH,zuH,zuH,zuH,zuH,zuH,zuH,zuH,zuH,zuH,U]),(U,[zuH,zuH,zuH,zuH,zuH,zuH,zuH,zuH,zuH,zuH,zuH,zuH,zuH,zuH,zuH,zuH,U,U,U]),(zuH,[zuH,zuH,zuH,zuH,zuH,zuH,zuH,zuH,zuH,zuH,zuH,zuH,zuH,zuH,zuH,zuH,zuH,zuH,zuH,U]),(U,[zuH,zuH,zuH,zuH,zuH,zuH,zuH,zuH,zuH,zuH,zuH,zuH,zuH,zuH,zuH,zuH,zuH,zuH,zuH,zuH,U,U,U]),(zuH,[zuH,zuH,zuH,zuH,zuH,zuH,zuH,zuH,zuH,zuH,zuH,zuH,zuH,zuH,zuH,zuH,zuH,zuH,zuH,zuH,zuH,zuH,zuH,U])] (zbT [(⟨w.heap.size,2,none⟩,.slice p.ah m.heads.length p.ch),(⟨w.heap.size,3,none⟩,.slice p.ab m.bytes.length p.cb),(⟨w.heap.size,8,none⟩,.slice p.ac m.ctrs.length p.cc)]) (by kernel_rfl) (hC3) (fun Y Q4 F4 hY hF=> ?_);simp only[zuJ]
 repeat
  apply zJ (by rw[hY];rfl)
  ·intro w2 hS2;(try simp only[Keeps,zbT,Cells]at hS2);go_simp;with_reducible rfl
  simp only[zuI]
 have hd3:=zcK w3.heap.size w3;apply zR (by rw[hY];rfl)
 ·go_simp;with_reducible exact⟨rfl,rfl⟩
 refine(HCi.out _ ((HM.out.step hB3).step hd3).rdh).mono ?_;rintro e w4 ⟨gh,ch,rfl,hgh,oh4,hb4⟩;have hE4:=zA hd3 hb4;have hC4:=Cells.step hE4 hC3;refine⟨_,rfl,hC4,?_⟩;simp only[zuI];apply zR (by rw[hY];rfl)
 ·go_simp;with_reducible exact⟨rfl,rfl⟩
 refine(HCb.out _ ((HM.out.step hB3).step hE4).rdb).mono ?_;rintro e w5 ⟨ab,cb,rfl,ob5,hb5⟩;have hE5:=zA hE4 hb5;have hC5:=Cells.step hb5 hC4;refine⟨_,rfl,hC5,?_⟩;simp only[zuI];apply zR (by rw[hY];rfl)
 ·go_simp;with_reducible exact⟨rfl,rfl⟩
 refine(HCc.out _ ((HM.out.step hB3).step hE5).rdc).mono ?_;rintro e w6 ⟨gc,cc,rfl,hgc,oc6,hb6⟩;have hE6:=zA hE5 hb6;have hC6:=Cells.step hb6 hC5;refine⟨_,rfl,hC6,?_⟩;simp only[zuI];have S6:=S3.step hE6;have z2:=S6.cell 2;have z3:=S6.cell 3;have z8:=S6.cell 8;have g2:=S6.free 2;have g3:=S6.free 3;have g8:=S6.free 8;simp only[zuK]at z2 z3 z8;have lS3:=S3.lt;have hwS1:¬S=w.heap.size:=by omega
 have hput:∀(X:World) (i:Nat) (v:Value),zbT [(⟨w.heap.size,2,none⟩,.slice p.ah m.heads.length p.ch),(⟨w.heap.size,3,none⟩,.slice p.ab m.bytes.length p.cb),(⟨w.heap.size,8,none⟩,.slice p.ac m.ctrs.length p.cc)] X→
  zbT [(⟨w.heap.size,2,none⟩,.slice p.ah m.heads.length p.ch),(⟨w.heap.size,3,none⟩,.slice p.ab m.bytes.length p.cb),(⟨w.heap.size,8,none⟩,.slice p.ac m.ctrs.length p.cc)] (X.setCell ⟨S,i,none⟩ v):=fun X i v h=>
  ⟨(zaU X S i _ _ v hwS1).trans h.1,(zaU X S i _ _ v hwS1).trans h.2.1,(zaU X S i _ _ v hwS1).trans h.2.2.1,yF⟩
 repeat
  apply zJ (by rw[hY];rfl)
  ·intro w2 hS2;(try simp only[Keeps,zbT,Cells]at hS2);go_simp;with_reducible rfl
  simp only[zuI]
 refine zdC (by rw[hY];rfl) (by go_simp;first|with_reducible exact⟨rfl,rfl⟩|with_reducible rfl) (hput _ _ _ hC6) ?_;simp only[zuI]
 repeat
  apply zJ (by rw[hY];rfl)
  ·intro w2 hS2;(try simp only[Keeps,zbT,Cells]at hS2);go_simp;with_reducible rfl
  simp only[zuI]
 refine zdC (by rw[hY];rfl) (by go_simp;first|with_reducible exact⟨rfl,rfl⟩|with_reducible rfl) (hput _ _ _ (hput _ _ _ hC6)) ?_;simp only[zuI]
 repeat
  apply zJ (by rw[hY];rfl)
  ·intro w2 hS2;(try simp only[Keeps,zbT,Cells]at hS2);go_simp;with_reducible rfl
  simp only[zuI]
 refine zdC (by rw[hY];rfl) (by go_simp;first|with_reducible exact⟨rfl,rfl⟩|with_reducible rfl) (hput _ _ _ (hput _ _ _ (hput _ _ _ hC6))) ?_;simp only[zuI];refine yE (hF.out _ _ (fun K hK=> ?_));clear hF hY;have T7:St S S gh gc m ⟨some ⟨gh,0,none⟩,ch,ab,cb,some ⟨gc,0,none⟩,cc⟩ (((w6.setCell ⟨S,2,none⟩ (.slice (some ⟨gh,0,none⟩) m.heads.length ch)).setCell ⟨S,3,none⟩ (.slice ab m.bytes.length cb)).setCell ⟨S,8,none⟩ (.slice (some ⟨gc,0,none⟩) m.ctrs.length cc)):=by
  have oh6:=(oh4.step hb5).step hb6;have hd:=hd3.size;have h4:=hb4.size;have h5:=hb5.size;have d1:¬gh=S:=by omega
  have d2:¬gc=S:=by omega
  exact⟨((S6.set 2 _).set 3 _).set 8 _,rfl,rfl,zD _,by omega,by omega,((oh6.other S 2 _ d1).other S 3 _ d1).other S 8 _ d1,((oc6.other S 2 _ d2).other S 3 _ d2).other S 8 _ d2,
   zfH (zfH (zfH (owns_base (yX (B:=0) ob5 hb6) (by omega)) S6 (by decide)) (S6.set 2 _) (by decide)) ((S6.set 2 _).set 3 _) (by decide)⟩
 have hB7:Below w.heap.size w (((w6.setCell ⟨S,2,none⟩ (.slice (some ⟨gh,0,none⟩) m.heads.length ch)).setCell ⟨S,3,none⟩ (.slice ab m.bytes.length cb)).setCell ⟨S,8,none⟩ (.slice (some ⟨gc,0,none⟩) m.ctrs.length cc)):=
  (((zA hB3 hE6).setCell (p:=⟨S,2,none⟩) (show w.heap.size≤S by omega) _).setCell (p:=⟨S,3,none⟩) (show w.heap.size≤S by omega) _).setCell (p:=⟨S,8,none⟩) (show w.heap.size≤S by omega) _
 have d3:¬w.heap.size+1=S:=by omega
 have R7:=(((R3.step hE6).other S 2 (.slice (some ⟨gh,0,none⟩) m.heads.length ch) d3).other S 3 (.slice ab m.bytes.length cb) d3).other S 8 (.slice (some ⟨gc,0,none⟩) m.ctrs.length cc) d3;go_wp2_with fail;refine OnlyK.mk (hK.out _ _ ?_);clear hK hput hC3 hC4 hC5 hC6 z2 z3 z8 g2 g3 g8 oh4 ob5 oc6 hgh hgc A3 R3 S3 S6;obtain⟨w7,hw7⟩:∃w7,(((w6.setCell ⟨S,2,none⟩ (.slice (some ⟨gh,0,none⟩) m.heads.length ch)).setCell ⟨S,3,none⟩ (.slice ab m.bytes.length cb)).setCell ⟨S,8,none⟩ (.slice (some ⟨gc,0,none⟩) m.ctrs.length cc))=w7:=⟨_,rfl⟩;rw[hw7]at T7 hB7 R7⊢;clear hw7;go_wp2_with fail;refine(HLn.out S S gh gc _ _ T7).mono ?_;rintro e w8 ⟨rfl,T8,hb8⟩;have hB8:=hB7.trans (hb8.mono (show w.heap.size≤S by omega));have R8:=R7.below hb8 (by omega);obtain⟨n,hn⟩:∃n,S12.learn m b=n:=⟨_,rfl⟩;rw[hn]at T8 HLrn;have hWF:=HHWF.out;have hL:=HLrn.out;have hmR:mR=S12.expect (S12.take n (2*n.part+b)):=by rw[←HmR.out];unfold S12.bitM;rw[hn]
 obtain⟨P,hP⟩:∃P,2*n.part+b=P:=⟨_,rfl⟩;have hpr:1≤n.part∧n.part≤255:=by rw[hL.part];exact hWF.part
 have hPr:2≤P∧P≤511:=by omega
 have hPf:256≤P:=by have:=hL.part;omega
 have hPd:decide (255<P)=true:=by simp;omega
 rw[hP]at hmR;have ht:S12.take n P=S12.search (S12.extend {n with bytes:=n.bytes ++ [P-256],part:=1}):=by unfold S12.take;rw[zO (by omega)]
 rw[ht]at hmR;have HmR2:=zB hmR;have T9:St S S gh gc {n with part:=P} ⟨some ⟨gh,0,none⟩,ch,ab,cb,some ⟨gc,0,none⟩,cc⟩ (w8.setCell ⟨S,6,none⟩ (.int .i64 P)):=T8.put 6 _ rfl rfl rfl rfl;have hB9:=hB8.setCell (p:=⟨S,6,none⟩) (show w.heap.size≤S by omega) (.int .i64 P);have R9:=R8.other S 6 (.int .i64 P) d3;obtain⟨x0,x1,x2,x3,x4,x5,x6,x7,x8⟩:=T8.blk.nine;have f6:=T8.blk.free 6;clear hmR ht hWF HLn HmR;have HLrn2:=zB hL;clear HLrn hL;have hC9:zbT [(⟨S,3,none⟩,.slice ab n.bytes.length cb),(⟨S,6,none⟩,.int .i64 P)] (w8.setCell ⟨S,6,none⟩ (.int .i64 P)):=⟨T9.blk.cell 3,T9.blk.cell 6,yF⟩;go_wp2_with fail;obtain⟨w9,hw9⟩:∃w9,w8.setCell ⟨S,6,none⟩ (.int .i64 P)=w9:=⟨_,rfl⟩;rw[hw9]at T9 hB9 R9 hC9⊢;clear hw9 x0 x1 x2 x3 x4 x5 x6 x7 x8 f6;obtain⟨y,hy⟩:∃y,P-256=y:=⟨_,rfl⟩;have hy2:0≤y∧y<256:=by omega
 have hym:P%256=y:=by omega
 have hyw:IntKind.u8.wrap P=y:=by rw[IntKind.wrap_u8];exact hym
 have HF:=zB (S12.full_ok HHWF.out HLrn2.out HM.out.byt hy2);have hby:S12.Byt n.bytes:=by rw[HLrn2.out.bytes];exact HM.out.byt
 have hbl:n.bytes.length≤65536:=by rw[HLrn2.out.bytes];exact HHWF.out.few
 have HmR3:=zB HmR2.out;rw[hy]at HmR3;have hC10:zbT [(⟨S,3,none⟩,.slice ab n.bytes.length cb),(⟨S,6,none⟩,.int .i64 P)] (w9.drew.alloc (Obj.cells #[.int .u8 y] 5)):=Cells.step ((zF w9.drew.heap.size w9.drew).alloc (zD _) _) hC9;have hd9:=zcK w9.heap.size w9;have hE10:Below w9.heap.size w9 (w9.drew.alloc (Obj.cells #[.int .u8 y] 5)):=zA hd9 ((zF w9.drew.heap.size w9.drew).alloc (zD _) _);have T10:=T9.step hE10;have N10:Rd (w9.drew.alloc (Obj.cells #[.int .u8 y] 5)) (some ⟨w9.heap.size,0,none⟩) [.int .u8 y]:=Rd.new w9.drew [.int .u8 y] 5;refine zbL 18 19 4 [(.p,[true,true,true,true,true,true]),(.r,[false,false,false,false,false,false,true]),(.p,[false,false,false,false,false,false,false,true,true,true,true]),(.r,[false,false,false,false,false,false,false,false,false,false,false,true]),(.p,[false,false,false,false,false,false,false,false,false,false,false,false,true]),(.e,[false,false,false,false,false,false,false,false,false,false,false,false,false,true]),(.e,[false,false,false,false,false,false,false,false,false,false,false,false,false,false,true]),(.p,[false,false,false,false,false,false,false,false,false,false,false,false,false,false,false,true,true,true]),(.l,[false,false,false,false,false,false,false,false,false,false,false,false,false,false,false,false,false,false,true])] _ _ (zbT [(⟨S,3,none⟩,.slice ab n.bytes.length cb),(⟨S,6,none⟩,.int .i64 P)]) (by kernel_rfl) (yB 19 _).symm (by kernel_rfl) (by kernel_rfl) (by kernel_rfl) (by kernel_rfl) (hC9) (fun Y Q4 F4 hY hF=> ?_);simp only[zeR,lfc,lfn,ltc,ltz,ldc,ldz,zeE,zdE,zfU,lmc,lmn,lca,lna,lan]
 repeat
  first
   | (apply zaR (by rw[hY];rfl)
      ·intro w2;go_simp;with_reducible rfl
      simp only[zuI])
   | (apply zaQ (by rw[hY];rfl)
      ·intro w2 hS2;(try simp only[Keeps,zbT,Cells]at hS2);go_simp;with_reducible rfl
      simp only[zuI])
 refine zgE (by rw[hY];rfl) (by go_simp;first|with_reducible exact⟨rfl,rfl⟩|with_reducible rfl) (hC10) ?_;simp only[zuI];refine zgU (.tmp 86) (.tmp 93) 24 5 1 1 _ S zdR _ n.bytes.length (Bts n.bytes) (some ⟨w9.heap.size,0,none⟩) 1 1 [.int .u8 y] (by rw[hY];rfl) rfl rfl rfl rfl (by intro u hu;rw[List.mem_singleton.1 hu];rfl) (by unfold maxLen;omega) (by omega) T10.ob N10 (by have:=T10.blk.lt;omega) ?_;intro ab2 cb2 w11 ob11 hg11;have hB11:Below S w9 w11:=Below.grown (hE10.mono (by have:=T9.blk.lt;omega)) hg11 (by have:=T10.blk.lt;omega) (fun k e=>(T10.ob.lt k e).1);have S11:=T10.blk.grownO T10.ob (by decide) hg11;have H11:=T10.oh.grownO T10.ob (by decide) hg11;have C11:=T10.oc.grownO T10.ob (by decide) hg11;have R11:=(R9.step hE10).grownO T10.ob (by decide) hg11;refine⟨⟨S11.cell 3,S11.cell 6,yF⟩,?_⟩;simp only[zuI];have z3:w11.cell? ⟨S,3,none⟩=some (.slice ab n.bytes.length cb):=S11.cell 3;have z6:w11.cell? ⟨S,6,none⟩=some (.int .i64 P):=S11.cell 6;have f3:=S11.free 3;have f6:=S11.free 6
 repeat
  first
   | (apply zaR (by rw[hY];rfl)
      ·intro w2;go_simp;with_reducible rfl
      simp only[zuI])
   | (apply zaQ (by rw[hY];rfl)
      ·intro w2 hS2;(try simp only[Keeps,zbT,Cells]at hS2);go_simp;with_reducible rfl
      simp only[zuI])
 refine zbD (by rw[hY];rfl) (by go_simp;first|with_reducible exact⟨rfl,rfl⟩|with_reducible rfl) ?_;simp only[zuI];refine zcR (hF.out _ _ (fun K hK=> ?_));clear hF hY;go_wp2_with fail;refine OnlyK.mk (hK.out _ _ ?_);clear hK z3 z6 f3 f6;obtain⟨n2,hn2⟩:∃n2:S12.M,({n with bytes:=n.bytes ++ [y],part:=1}:S12.M)=n2:=⟨_,rfl⟩;have T13:St S S gh gc {n with bytes:=n.bytes ++ [y],part:=1} ⟨some ⟨gh,0,none⟩,ch,ab2,cb2,some ⟨gc,0,none⟩,cc⟩ ((w11.setCell ⟨S,3,none⟩ (.slice ab2 (n.bytes.length+1) cb2)).setCell ⟨S,6,none⟩ (.int .i64 1)):=by
  have el:(n.bytes ++ [y]).length=n.bytes.length+1:=by simp
  refine⟨?_,rfl,rfl,zD _,T9.hh,T9.hc,(H11.other S 3 _ (H11.ne S11 (by decide))).other S 6 _ (H11.ne S11 (by decide)),(C11.other S 3 _ (C11.ne S11 (by decide))).other S 6 _ (C11.ne S11 (by decide)),?_⟩
  ·have:=(S11.set 3 (.slice ab2 (n.bytes.length+1) cb2)).set 6 (.int .i64 1);unfold zbJ;rw[show({n with bytes:=n.bytes ++ [y],part:=1}:S12.M).bytes.length=n.bytes.length+1 from el];exact this
  ·rw[show({n with bytes:=n.bytes ++ [y],part:=1}:S12.M).bytes.length=n.bytes.length+1 from el,show Bts ({n with bytes:=n.bytes ++ [y],part:=1}:S12.M).bytes=Bts n.bytes ++ [.int .u8 y]from Bts_app _ _];exact zfH (zfH ob11 S11 (by decide)) (S11.set 3 _) (by decide)
 have hB13:Below w.heap.size w ((w11.setCell ⟨S,3,none⟩ (.slice ab2 (n.bytes.length+1) cb2)).setCell ⟨S,6,none⟩ (.int .i64 1)):=((hB9.trans (hB11.mono (show w.heap.size≤S by omega))).setCell (p:=⟨S,3,none⟩) (show w.heap.size≤S by omega) _).setCell (p:=⟨S,6,none⟩) (show w.heap.size≤S by omega) _;have R13:=(R11.other S 3 (.slice ab2 (n.bytes.length+1) cb2) d3).other S 6 (.int .i64 1) d3;rw[hn2]at T13 HF HmR3;have hby2:S12.Byt (S12.search (S12.extend n2)).bytes:=by rw[S12.search_bytes];exact HF.out.byt
 obtain⟨w13,hw13⟩:∃w13,((w11.setCell ⟨S,3,none⟩ (.slice ab2 (n.bytes.length+1) cb2)).setCell ⟨S,6,none⟩ (.int .i64 1))=w13:=⟨_,rfl⟩;rw[hw13]at T13 hB13 R13⊢;clear hw13 hC10 hd9 hE10 T10 N10 T9 hB9 R9 hC9 hB11 S11 H11 C11 R11 ob11 hg11 hn2 hym hyw hPd hfull dl hPf hy hy2;have HmR2:=HmR3;clear HmR3;go_wp2_with fail;obtain⟨w14,hw14⟩:∃w14,w13.alloc (Obj.cells #[.func (.func 171) #[.pointer (some ⟨S,0,none⟩)] #[],.func (.func 172) #[.pointer (some ⟨S,0,none⟩)] #[]] 1)=w14:=⟨_,rfl⟩;have hE14:Below w13.heap.size w13 w14:=by rw[←hw14];exact(zF _ _).alloc (zD _) _
 have F14:Blk w14 w13.heap.size [.func (.func 171) #[.pointer (some ⟨S,0,none⟩)] #[],.func (.func 172) #[.pointer (some ⟨S,0,none⟩)] #[]] 1:=by rw[←hw14];exact Blk.new w13 _ _
 have T14:=T13.step hE14;have R14:=R13.step hE14;have hB14:=zA hB13 hE14;rw[hw14];clear hw14 T13 R13 hB13 hE14;obtain⟨Fb,hFb⟩:∃Fb,w13.heap.size=Fb:=⟨_,rfl⟩;rw[hFb]at F14⊢;clear hFb
 go_loopw [10,107] (fun _ i wr=>∃k:Nat,k≤2∧i = .int .i64 (k:Int)∧St S S gh gc (S12.stepN n2 k) ⟨some ⟨gh,0,none⟩,ch,ab2,cb2,some ⟨gc,0,none⟩,cc⟩ wr∧Below w.heap.size w wr∧
  Blk wr (w.heap.size+1) [.int .i64 0,.int .i64 0,.slice none 0 0,.slice none 0 0,.int .i64 0,.int .i64 0,.int .i64 0,.int .i64 0,.slice none 0 0] 71∧
  Blk wr Fb [.func (.func 171) #[.pointer (some ⟨S,0,none⟩)] #[],.func (.func 172) #[.pointer (some ⟨S,0,none⟩)] #[]] 1) (fun _ i _=>2-(intOf i).toNat)
 case atStart=>exact⟨0,by omega,rfl,T14,hB14,R14,F14⟩
 case round=>
  obtain⟨k,hk,rfl,Tk,hBk,Rk,Fk⟩:=hrel;clear T14 R14 F14 hB14;have g0:=Fk.cell 0;have g1:=Fk.cell 1;simp only[zuK]at g0 g1
  match k,hk with
  | 0,_=>
    go_wp2_with fail;refine(extend12_any S S gh gc n2 _ wr Tk HF.out.len HF.out.at_).mono ?_;rintro e wx ⟨rfl,Tx,hbx,hfx⟩;have hBx:=hBk.trans (hbx.mono (show w.heap.size≤S by omega));have Rx:=Rk.below hbx (by omega);have Fx:=hfx _ _ Fk;go_wp2_with fail;go_roundw
    case rel=>exact⟨1,by omega,rfl,Tx,hBx,Rx,Fx⟩
    case measure=>simp[intOf]
  | 1,_=>
    go_wp2_with fail;refine(search12_any S S gh gc (S12.extend n2) _ wr Tk HF.out.bits HF.out.least HF.out.few HF.out.byt HF.out.heads HF.out.head).mono ?_;rintro e wx ⟨rfl,Tx,hbx,hfx⟩;have hBx:=hBk.trans (hbx.mono (show w.heap.size≤S by omega));have Rx:=Rk.below hbx (by omega);have Fx:=hfx _ _ Fk;go_wp2_with fail;go_roundw
    case rel=>exact⟨2,by omega,rfl,Tx,hBx,Rx,Fx⟩
    case measure=>simp[intOf]
  | 2,_=>
    have Tk2:St S S gh gc (S12.search (S12.extend n2)) ⟨some ⟨gh,0,none⟩,ch,ab2,cb2,some ⟨gc,0,none⟩,cc⟩ wr:=Tk;clear Tk g0 g1 Fk HF;obtain⟨n3,hn3⟩:∃n3,S12.search (S12.extend n2)=n3:=⟨_,rfl⟩;rw[hn3]at Tk2 HmR2 hby2;clear hn3;have T21:St S S gh gc {n3 with bit:=2} (⟨some ⟨gh,0,none⟩,ch,ab2,cb2,some ⟨gc,0,none⟩,cc⟩:Pl) (wr.setCell ⟨S,7,none⟩ (.int .i64 2)):=(Tk2).put 7 _ rfl rfl rfl rfl;have hB21:=(hBk).setCell (p:=⟨S,7,none⟩) (show w.heap.size≤S by omega) (.int .i64 2);have R21:=(Rk).other S 7 (.int .i64 2) d3;obtain⟨x0,x1,x2,x3,x4,x5,x6,x7,x8⟩:=(Tk2).blk.nine;have f7:=(Tk2).blk.free 7;have hd3:¬S=w.heap.size+1:=fun e=>d3 e.symm;have lS:=T21.blk.lt;by_cases hln:0<(n3).len
    ·have eR:mR = {n3 with bit:=S12.expI ((n3).bytes.getD (n3).at_.toNat 0) (n3).part}:=by rw[HmR2.out];unfold S12.expect;rw[zO hln]
     have hWR:S12.WF {n3 with bit:=S12.expI ((n3).bytes.getD (n3).at_.toNat 0) (n3).part}:=by rw[←eR];exact HWF'.out
     have hma:=hWR.Mat (show(n3).len≠0 by omega);have hma1:(n3).len≤(n3).at_∧(n3).at_≤((n3).bytes.length:Int)-1:=hma.at_;have hma2:1≤(n3).len∧(n3).len≤255:=hma.len;have hR1:(n3).heads.length≤65536:=hWR.sizes.1;have hR2:(n3).bytes.length≤65536:=hWR.sizes.2.1;have hR3:(n3).ctrs.length≤65536:=hWR.sizes.2.2;obtain⟨q,hq⟩:∃q:Nat,(n3).at_=q:=⟨(n3).at_.toNat,by omega⟩;have hx0:0≤(n3).bytes.getD q 0:=hby2.get q;have hx1:((n3).bytes.getD q 0).toNat<256:=hby2.at q;obtain⟨xn,hxn⟩:∃xn:Nat,(n3).bytes.getD q 0=xn:=⟨((n3).bytes.getD q 0).toNat,(Int.toNat_of_nonneg hx0).symm⟩;have hxn2:xn<256:=by rw[hxn]at hx1;omega
     obtain⟨gB,oB,eB,hcB⟩:=zqY (Rd.of_owns T21.ob) (i:=q) (show q<(n3).bytes.length by omega);have hcB2:=hcB q (show q<(n3).bytes.length by omega);have hap:=T21.apart (show w.heap.size+1<S by omega);have Hfar:=zB (T21.far.mono (show w.heap.size≤S by omega));simp only at eB hcB2;rw[show(n3).bytes.getD q 0=(xn:Int)from hxn]at hcB2;have hgS:¬S=gB:=fun e=>zbQ T21.ob T21.blk (by decide) (by simp only;rw[eB,e];rfl)
     have hC21:zbT [(⟨S,3,none⟩,.slice (some ⟨gB,oB,none⟩) (n3).bytes.length ((⟨some ⟨gh,0,none⟩,ch,ab2,cb2,some ⟨gc,0,none⟩,cc⟩:Pl)).cb),(⟨S,4,none⟩,.int .i64 (q:Int)),(⟨S,6,none⟩,.int .i64 (n3).part),(⟨gB,oB+q,none⟩,.int .u8 (xn:Int))] (wr.setCell ⟨S,7,none⟩ (.int .i64 2)):=
      ⟨by rw[←eB];exact T21.blk.cell 3,by rw[←hq];exact T21.blk.cell 4,T21.blk.cell 6,hcB2,yF⟩
     have HEx:=zB fun W=>zgL xn hxn2 (n3).part W;obtain⟨bv,hbv⟩:∃bv,S12.optN (S12.exp xn (n3).part)=bv:=⟨_,rfl⟩;have hbv2:S12.expI ((n3).bytes.getD (n3).at_.toNat 0) (n3).part=bv:=by rw[S12.expI_eq,hq,Int.toNat_natCast,hxn,Int.toNat_natCast,hbv]
     rw[hbv]at HEx;rw[hbv2]at eR;have HeR:=zB eR;have hql:q<(n3).bytes.length:=by omega
     clear hma hma1 hma2 hWR hbv hbv2 hxn hcB hcB2 eR hq;have eln:decide (0<(n3).len)=true:=zQ hln;clear hln;obtain⟨isS,hisS⟩:∃isS,(S12.exp xn (n3).part).isSome=isS:=⟨_,rfl⟩;rw[hisS]at HEx;clear hisS;go_wp2_with fail;obtain⟨w21,hw21⟩:∃w21,wr.setCell ⟨S,7,none⟩ (.int .i64 2)=w21:=⟨_,rfl⟩;rw[hw21]at T21 hB21 R21 hC21⊢;clear hw21 x0 x1 x2 x3 x4 x5 x6 x7 x8 f7 eln;refine zuL 26 0 [(U,[U,U,U,U,U,U,U,U,U,U,U,U,U,U,U,U,U,U]),(zuH,[zuH,zuH,zuH,zuH,zuH,zuH,zuH,zuH,zuH,zuH,zuH,zuH,zuH,zuH,zuH,zuH,zuH,zuH,U]),(U,[zuH,zuH,zuH,zuH,zuH,zuH,zuH,zuH,zuH,zuH,zuH,zuH,zuH,zuH,zuH,zuH,zuH,zuH,zuH,U,U,U,U,U,U]),(zuH,[zuH,zuH,zuH,zuH,zuH,zuH,zuH,zuH,zuH,zuH,zuH,zuH,zuH,zuH,zuH,zuH,zuH,zuH,zuH,zuH,zuH,zuH,zuH,zuH,zuH,U])] (zbT [(⟨S,3,none⟩,.slice (some ⟨gB,oB,none⟩) (n3).bytes.length ((⟨some ⟨gh,0,none⟩,ch,ab2,cb2,some ⟨gc,0,none⟩,cc⟩:Pl)).cb),(⟨S,4,none⟩,.int .i64 (q:Int)),(⟨S,6,none⟩,.int .i64 (n3).part),(⟨gB,oB+q,none⟩,.int .u8 (xn:Int))]) (by kernel_rfl) (hC21) (fun Y Q4 F4 hY hF=> ?_);simp only[zuJ]
     repeat
      apply zJ (by rw[hY];rfl)
      ·intro w2 hS2;(try simp only[Keeps,zbT,Cells]at hS2);go_simp;with_reducible rfl
      simp only[zuI]
     apply zR (by rw[hY];rfl)
     ·go_simp;with_reducible exact⟨rfl,rfl⟩
     refine(HEx.out _).mono ?_;rintro e w22 ⟨rfl,hb22⟩;have hE22:=zA (zcK w21.heap.size w21) hb22;have hC22:=Cells.step hE22 hC21;refine⟨_,rfl,hC22,?_⟩;simp only[zuI]
     repeat
      apply zJ (by rw[hY];rfl)
      ·intro w2 hS2;(try simp only[Keeps,zbT,Cells]at hS2);go_simp;with_reducible rfl
      simp only[zuI]
     have T22:=T21.step hE22;have y7:w22.cell? ⟨S,7,none⟩=some (.int .i64 2):=T22.blk.cell 7;have f7:=T22.blk.free 7;have hgS2:¬(S=S∧7=3):=by omega
     refine zdC (by rw[hY];rfl) (by go_simp;first|with_reducible exact⟨rfl,rfl⟩|with_reducible rfl) ((show zbT _ _ from⟨(World.cell?_setCell_other w22 ⟨S,7,none⟩ ⟨S,3,none⟩ _ (by simp)).trans hC22.1,(World.cell?_setCell_other w22 ⟨S,7,none⟩ ⟨S,4,none⟩ _ (by simp)).trans hC22.2.1,(World.cell?_setCell_other w22 ⟨S,7,none⟩ ⟨S,6,none⟩ _ (by simp)).trans hC22.2.2.1,(zaU w22 S 7 _ _ _ hgS).trans hC22.2.2.2.1,yF⟩)) ?_;simp only[zuI];refine yE (hF.out _ _ (fun K hK=> ?_));clear hF hY;have T23:St S S gh gc {n3 with bit:=bv} (⟨some ⟨gh,0,none⟩,ch,ab2,cb2,some ⟨gc,0,none⟩,cc⟩:Pl) (w22.setCell ⟨S,7,none⟩ (.int .i64 bv)):=T22.put 7 _ rfl rfl rfl rfl;have hB23:=(zA hB21 hE22).setCell (p:=⟨S,7,none⟩) (show w.heap.size≤S by omega) (.int .i64 bv);have R23:=(R21.step hE22).other S 7 (.int .i64 bv) d3;go_wp2_with fail;refine OnlyK.mk (hK.out _ _ ?_);clear hK y7 f7 hC22 hC21 T22;obtain⟨w23,hw23⟩:∃w23,w22.setCell ⟨S,7,none⟩ (.int .i64 bv)=w23:=⟨_,rfl⟩;rw[hw23]at T23 hB23 R23⊢;clear hw23;have hmis:=T23.mis hby2 hR1 hR2 hR3;obtain⟨x0,x1,x2,x3,x4,x5,x6,x7,x8⟩:=T23.blk.nine;obtain⟨z0,z1,z2,z3,z4,z5,z6,z7,z8⟩:=R23.nine;have q0:=R23.free 0;have q1:=R23.free 1;have q2:=R23.free 2;have q3:=R23.free 3;have q4:=R23.free 4;have q5:=R23.free 5;have q6:=R23.free 6;have q7:=R23.free 7;have q8:=R23.free 8;have Hm:=zB hmis;have Ha:=zB hap;clear hmis hap;have eR:=HeR.out;subst eR;obtain⟨y0,y1,y2,y3,y4,y5,y6,y7,y8⟩:=(R23.put9 (.int .i64 (n3).bits) (.int .i64 (n3).least) (.slice ((⟨some ⟨gh,0,none⟩,ch,ab2,cb2,some ⟨gc,0,none⟩,cc⟩:Pl)).ah (n3).heads.length ((⟨some ⟨gh,0,none⟩,ch,ab2,cb2,some ⟨gc,0,none⟩,cc⟩:Pl)).ch) (.slice (some ⟨gB,oB,none⟩) (n3).bytes.length ((⟨some ⟨gh,0,none⟩,ch,ab2,cb2,some ⟨gc,0,none⟩,cc⟩:Pl)).cb) (.int .i64 (n3).at_) (.int .i64 (n3).len) (.int .i64 (n3).part) (.int .i64 bv) (.slice ((⟨some ⟨gh,0,none⟩,ch,ab2,cb2,some ⟨gc,0,none⟩,cc⟩:Pl)).ac (n3).ctrs.length ((⟨some ⟨gh,0,none⟩,ch,ab2,cb2,some ⟨gc,0,none⟩,cc⟩:Pl)).cc)).nine;go_wp2_with (exact bodyPost_ret (v:=.tuple #[MV {n3 with bit:=bv} (⟨some ⟨gh,0,none⟩,ch,ab2,cb2,some ⟨gc,0,none⟩,cc⟩:Pl),.int .i64 0]) (by simp[results,Tryz.results165,go_sem,MV,zbJ,y0,y1,y2,y3,y4,y5,y6,y7,y8,eB]) rfl ⟨(⟨some ⟨gh,0,none⟩,ch,ab2,cb2,some ⟨gc,0,none⟩,cc⟩:Pl),rfl,Hm.out.put9 Ha.out.1 Ha.out.2.1 Ha.out.2.2 _ _ _ _ _ _ _ _ _,Hfar.out,zeA hB23 (Nat.le_succ _) _ _ _ _ _ _ _ _ _⟩)
    ·have eR:mR = {n3 with bit:=2}:=by rw[HmR2.out];unfold S12.expect;rw[zG hln]
     have hWR:S12.WF {n3 with bit:=2}:=by rw[←eR];exact HWF'.out
     have hR1:(n3).heads.length≤65536:=hWR.sizes.1;have hR2:(n3).bytes.length≤65536:=hWR.sizes.2.1;have hR3:(n3).ctrs.length≤65536:=hWR.sizes.2.2;have hmis:=T21.mis hby2 hR1 hR2 hR3;have hap:=T21.apart (show w.heap.size+1<S by omega);have Hfar:=zB (T21.far.mono (show w.heap.size≤S by omega));have eln:decide (0<(n3).len)=false:=yD hln;obtain⟨z0,z1,z2,z3,z4,z5,z6,z7,z8⟩:=(Rk).nine;have q0:=(Rk).free 0;have q1:=(Rk).free 1;have q2:=(Rk).free 2;have q3:=(Rk).free 3;have q4:=(Rk).free 4;have q5:=(Rk).free 5;have q6:=(Rk).free 6;have q7:=(Rk).free 7;have q8:=(Rk).free 8;have Hm:=zB hmis;have Ha:=zB hap;have HeR:=zB eR;clear hmis hap eR hWR hln;have eR:=HeR.out;subst eR;obtain⟨y0,y1,y2,y3,y4,y5,y6,y7,y8⟩:=(R21.put9 (.int .i64 (n3).bits) (.int .i64 (n3).least) (.slice ((⟨some ⟨gh,0,none⟩,ch,ab2,cb2,some ⟨gc,0,none⟩,cc⟩:Pl)).ah (n3).heads.length ((⟨some ⟨gh,0,none⟩,ch,ab2,cb2,some ⟨gc,0,none⟩,cc⟩:Pl)).ch) (.slice ((⟨some ⟨gh,0,none⟩,ch,ab2,cb2,some ⟨gc,0,none⟩,cc⟩:Pl)).ab (n3).bytes.length ((⟨some ⟨gh,0,none⟩,ch,ab2,cb2,some ⟨gc,0,none⟩,cc⟩:Pl)).cb) (.int .i64 (n3).at_) (.int .i64 (n3).len) (.int .i64 (n3).part) (.int .i64 2) (.slice ((⟨some ⟨gh,0,none⟩,ch,ab2,cb2,some ⟨gc,0,none⟩,cc⟩:Pl)).ac (n3).ctrs.length ((⟨some ⟨gh,0,none⟩,ch,ab2,cb2,some ⟨gc,0,none⟩,cc⟩:Pl)).cc)).nine;go_wp2_with (exact bodyPost_ret (v:=.tuple #[MV {n3 with bit:=2} (⟨some ⟨gh,0,none⟩,ch,ab2,cb2,some ⟨gc,0,none⟩,cc⟩:Pl),.int .i64 0]) (by simp[results,Tryz.results165,go_sem,MV,zbJ,y0,y1,y2,y3,y4,y5,y6,y7,y8]) rfl ⟨(⟨some ⟨gh,0,none⟩,ch,ab2,cb2,some ⟨gc,0,none⟩,cc⟩:Pl),rfl,Hm.out.put9 Ha.out.1 Ha.out.2.1 Ha.out.2.2 _ _ _ _ _ _ _ _ _,Hfar.out,zeA hB21 (Nat.le_succ _) _ _ _ _ _ _ _ _ _⟩)
theorem bit12_part(m:S12.M)(p:Pl)(b:Int)(w:World)(hM:MIs m p w)(hE:S12.bitE m b=0)(hfull:¬128≤m.part) :
 Calls Tryz.prog 165 #[MV m p,.int .i64 b] w fun e w'=>∃p',e = .returned (.tuple #[MV (S12.bitM m b) p',.int .i64 0])∧MIs (S12.bitM m b) p' w'∧Far w.heap.size p'∧Below w.heap.size w w':=by
 have hck:S12.check m=0:=by
  cases h:decide (S12.check m=0)with
  | true=>exact zaV h
  | false=>unfold S12.bitE at hE;rw[zO (of_decide_eq_false h)]at hE;exact hE
 have hWF:=(S12.check_iff m).1 hck;have hbb:b=0∨b=1:=by
  unfold S12.bitE at hE;rw[zG (by rw[hck];simp)]at hE;split at hE
  ·cases hE
  ·omega
 have hroom:¬(128≤m.part∧65536≤m.bytes.length):=by
  unfold S12.bitE at hE;rw[zG (by rw[hck];simp),zG (by omega)]at hE;split at hE
  ·cases hE
  ·assumption
 have HWF':=zB (hWF.bitM hM.byt hbb hE);have HCk:=zB fun W hW=>zfX m p W hW;rw[hck]at HCk;have HW:=zB fun W=>zcO b 0 1 W;rw[show decide (0≤b∧b≤1)=true from zQ (by omega)]at HW;have hlen0:0≤m.len:=by
  rcases(S12.matched_iff m).1 hWF.mat with⟨h,_⟩|h
  ·omega
  ·have:=h.len;omega
 have HLn:=zB fun(B S gh gc:Nat) (p1:Pl) (W:World) (h:St B S gh gc m p1 W)=>zpW B S gh gc m p1 b W h hWF.ctrs hWF.ctr hlen0;have hL:=hWF.learn b;have hps:2^m.bits.toNat≤65536:=zdA (n:=2) (by omega) (show m.bits.toNat≤16 by have:=hWF.bits;omega);have hh1:1≤m.heads.length:=by rw[hWF.heads];exact zcB _
 have hh2:m.heads.length≤65536:=by rw[hWF.heads];exact hps
 have hc16:=hWF.ctrs;have hfew:=hWF.few;have HCi:=zB fun W (h:Rd W p.ah (zaK m.heads))=>ziA m.heads p.ah p.ch W hh1 hh2 h;have HCb:=zB fun W (h:Rd W p.ab (Bts m.bytes))=>zfJ m.bytes p.ab p.cb W hfew h;have HCc:=zB fun W (h:Rd W p.ac (Cts m.ctrs))=>ziZ m.ctrs p.ac p.cc W (by omega) (by omega) h;have dc:decide (128≤m.part)=false:=by simp;omega
 have HHWF:=zB hWF;have HM:=zB hM;have HLrn:=zB hL;have hB0:Below w.heap.size w ((w.alloc (.cells (zbJ m p).toArray 71)).alloc (.cells #[.int .i64 0,.int .i64 0,.slice none 0 0,.slice none 0 0,.int .i64 0,.int .i64 0,.int .i64 0,.int .i64 0,.slice none 0 0] 71)):=by go_grown
 have A0:Blk ((w.alloc (.cells (zbJ m p).toArray 71)).alloc (.cells #[.int .i64 0,.int .i64 0,.slice none 0 0,.slice none 0 0,.int .i64 0,.int .i64 0,.int .i64 0,.int .i64 0,.slice none 0 0] 71)) w.heap.size (zbJ m p) 71:=(Blk.new w _ _).alloc _;have R0:Blk ((w.alloc (.cells (zbJ m p).toArray 71)).alloc (.cells #[.int .i64 0,.int .i64 0,.slice none 0 0,.slice none 0 0,.int .i64 0,.int .i64 0,.int .i64 0,.int .i64 0,.slice none 0 0] 71)) (w.heap.size+1) [.int .i64 0,.int .i64 0,.slice none 0 0,.slice none 0 0,.int .i64 0,.int .i64 0,.int .i64 0,.int .i64 0,.slice none 0 0] 71:=by
  have h:=Blk.new (w.alloc (.cells (zbJ m p).toArray 71)) [.int .i64 0,.int .i64 0,.slice none 0 0,.slice none 0 0,.int .i64 0,.int .i64 0,.int .i64 0,.int .i64 0,.slice none 0 0] 71;simpa using h
 clear hE hck hWF hM hL hps hh1 hh2 hc16 hroom hfew hlen0;obtain⟨mR,hmR⟩:∃mR,S12.bitM m b=mR:=⟨_,rfl⟩;rw[hmR]at HWF'⊢;have HmR:=zB hmR;clear hmR;unfold MV at HCk;unfold zbJ at HCk A0 R0 hB0;show Calls Tryz.prog 165 #[.agg #[.int .i64 m.bits,.int .i64 m.least,.slice p.ah m.heads.length p.ch,.slice p.ab m.bytes.length p.cb,.int .i64 m.at_,.int .i64 m.len,.int .i64 m.part,.int .i64 m.bit,.slice p.ac m.ctrs.length p.cc],.int .i64 b] w _;go_enter Tryz.func165,Tryz.ntmps165;obtain⟨x0,x1,x2,x3,x4,x5,x6,x7,x8⟩:=A0.nine;obtain⟨w0,hw0⟩:∃w0,((w.alloc (.cells #[.int .i64 m.bits,.int .i64 m.least,.slice p.ah m.heads.length p.ch,.slice p.ab m.bytes.length p.cb,.int .i64 m.at_,.int .i64 m.len,.int .i64 m.part,.int .i64 m.bit,.slice p.ac m.ctrs.length p.cc] 71)).alloc (.cells #[.int .i64 0,.int .i64 0,.slice none 0 0,.slice none 0 0,.int .i64 0,.int .i64 0,.int .i64 0,.int .i64 0,.slice none 0 0] 71))=w0:=⟨_,rfl⟩;rw[hw0]at hB0 A0 R0 x0 x1 x2 x3 x4 x5 x6 x7 x8;go_wp2_with fail;refine(HCk.out _ (HM.out.step hB0)).mono ?_;rintro e w1 ⟨rfl,hb1⟩;have hB1:=zA hB0 hb1;go_wp2_with fail;refine(HW.out _).mono ?_;rintro e w2 ⟨rfl,hb2⟩;have hB2:=zA hB1 hb2;have A2:=(A0.step hb1).step hb2;have R2:=(R0.step hb1).step hb2;clear x0 x1 x2 x3 x4 x5 x6 x7 x8 A0 R0 hw0;obtain⟨x0,x1,x2,x3,x4,x5,x6,x7,x8⟩:=A2.nine;go_wp2_with fail;obtain⟨S,hS⟩:∃S,w2.heap.size=S:=⟨_,rfl⟩;obtain⟨w3,hw3⟩:∃w3,w2.alloc (.cells #[.int .i64 m.bits,.int .i64 m.least,.slice p.ah m.heads.length p.ch,.slice p.ab m.bytes.length p.cb,.int .i64 m.at_,.int .i64 m.len,.int .i64 m.part,.int .i64 m.bit,.slice p.ac m.ctrs.length p.cc] 225)=w3:=⟨_,rfl⟩;have hb3:Below w2.heap.size w2 w3:=by rw[←hw3];exact(zF _ _).alloc (zD _) _
 have S3:Blk w3 S [.int .i64 m.bits,.int .i64 m.least,.slice p.ah m.heads.length p.ch,.slice p.ab m.bytes.length p.cb,.int .i64 m.at_,.int .i64 m.len,.int .i64 m.part,.int .i64 m.bit,.slice p.ac m.ctrs.length p.cc] 225:=by rw[←hw3,←hS];exact Blk.new w2 _ _
 have hB3:=zA hB2 hb3;have A3:=A2.step hb3;have R3:=R2.step hb3;have hwS:w.heap.size+1<S:=by rw[←hS];exact R2.lt
 have hC3:zbT [(⟨w.heap.size,2,none⟩,.slice p.ah m.heads.length p.ch),(⟨w.heap.size,3,none⟩,.slice p.ab m.bytes.length p.cb),(⟨w.heap.size,8,none⟩,.slice p.ac m.ctrs.length p.cc)] w3:=⟨A3.cell 2,A3.cell 3,A3.cell 8,yF⟩;rw[hw3,hS];clear x0 x1 x2 x3 x4 x5 x6 x7 x8 A2 R2 hw3 hb3 dc;refine zuL 24 0 [(U,[U,U,U,U,U,zuH,U,U,zuH,U,U]),(zuH,[zuH,zuH,zuH,zuH,zuH,U]),(zuH,[zuH,zuH,zuH,zuH,zuH,zuH,zuH,zuH,U]),(zuH,[zuH,zuH,zuH,zuH,zuH,zuH,zuH,zuH,zuH,zuH,zuH,U]),(U,[zuH,zuH,zuH,zuH,zuH,zuH,zuH,zuH,zuH,zuH,zuH,zuH,U,U,U]),(zuH,[zuH,zuH,zuH,zuH,zuH,zuH,zuH,zuH,zuH,zuH,zuH,zuH,zuH,zuH,zuH,U]),(U,[zuH,zuH,zuH,zuH,zuH,zuH,zuH,zuH,zuH,zuH,zuH,zuH,zuH,zuH,zuH,zuH,U,U,U]),(zuH,[zuH,zuH,zuH,zuH,zuH,zuH,zuH,zuH,zuH,zuH,zuH,zuH,zuH,zuH,zuH,zuH,zuH,zuH,zuH,U]),(U,[zuH,zuH,zuH,zuH,zuH,zuH,zuH,zuH,zuH,zuH,zuH,zuH,zuH,zuH,zuH,zuH,zuH,zuH,zuH,zuH,U,U,U]),(zuH,[zuH,zuH,zuH,zuH,zuH,zuH,zuH,zuH,zuH,zuH,zuH,zuH,zuH,zuH,zuH,zuH,zuH,zuH,zuH,zuH,zuH,zuH,zuH,U])] (zbT [(⟨w.heap.size,2,none⟩,.slice p.ah m.heads.length p.ch),(⟨w.heap.size,3,none⟩,.slice p.ab m.bytes.length p.cb),(⟨w.heap.size,8,none⟩,.slice p.ac m.ctrs.length p.cc)]) (by kernel_rfl) (hC3) (fun Y Q4 F4 hY hF=> ?_);simp only[zuJ]
 repeat
  apply zJ (by rw[hY];rfl)
  ·intro w2 hS2;(try simp only[Keeps,zbT,Cells]at hS2);go_simp;with_reducible rfl
  simp only[zuI]
 have hd3:=zcK w3.heap.size w3;apply zR (by rw[hY];rfl)
 ·go_simp;with_reducible exact⟨rfl,rfl⟩
 refine(HCi.out _ ((HM.out.step hB3).step hd3).rdh).mono ?_;rintro e w4 ⟨gh,ch,rfl,hgh,oh4,hb4⟩;have hE4:=zA hd3 hb4;have hC4:=Cells.step hE4 hC3;refine⟨_,rfl,hC4,?_⟩;simp only[zuI];apply zR (by rw[hY];rfl)
 ·go_simp;with_reducible exact⟨rfl,rfl⟩
 refine(HCb.out _ ((HM.out.step hB3).step hE4).rdb).mono ?_;rintro e w5 ⟨ab,cb,rfl,ob5,hb5⟩;have hE5:=zA hE4 hb5;have hC5:=Cells.step hb5 hC4;refine⟨_,rfl,hC5,?_⟩;simp only[zuI];apply zR (by rw[hY];rfl)
 ·go_simp;with_reducible exact⟨rfl,rfl⟩
 refine(HCc.out _ ((HM.out.step hB3).step hE5).rdc).mono ?_;rintro e w6 ⟨gc,cc,rfl,hgc,oc6,hb6⟩;have hE6:=zA hE5 hb6;have hC6:=Cells.step hb6 hC5;refine⟨_,rfl,hC6,?_⟩;simp only[zuI];have S6:=S3.step hE6;have z2:=S6.cell 2;have z3:=S6.cell 3;have z8:=S6.cell 8;have g2:=S6.free 2;have g3:=S6.free 3;have g8:=S6.free 8;simp only[zuK]at z2 z3 z8;have lS3:=S3.lt;have hwS1:¬S=w.heap.size:=by omega
 have hput:∀(X:World) (i:Nat) (v:Value),zbT [(⟨w.heap.size,2,none⟩,.slice p.ah m.heads.length p.ch),(⟨w.heap.size,3,none⟩,.slice p.ab m.bytes.length p.cb),(⟨w.heap.size,8,none⟩,.slice p.ac m.ctrs.length p.cc)] X→
  zbT [(⟨w.heap.size,2,none⟩,.slice p.ah m.heads.length p.ch),(⟨w.heap.size,3,none⟩,.slice p.ab m.bytes.length p.cb),(⟨w.heap.size,8,none⟩,.slice p.ac m.ctrs.length p.cc)] (X.setCell ⟨S,i,none⟩ v):=fun X i v h=>
  ⟨(zaU X S i _ _ v hwS1).trans h.1,(zaU X S i _ _ v hwS1).trans h.2.1,(zaU X S i _ _ v hwS1).trans h.2.2.1,yF⟩
 repeat
  apply zJ (by rw[hY];rfl)
  ·intro w2 hS2;(try simp only[Keeps,zbT,Cells]at hS2);go_simp;with_reducible rfl
  simp only[zuI]
 refine zdC (by rw[hY];rfl) (by go_simp;first|with_reducible exact⟨rfl,rfl⟩|with_reducible rfl) (hput _ _ _ hC6) ?_;simp only[zuI]
 repeat
  apply zJ (by rw[hY];rfl)
  ·intro w2 hS2;(try simp only[Keeps,zbT,Cells]at hS2);go_simp;with_reducible rfl
  simp only[zuI]
 refine zdC (by rw[hY];rfl) (by go_simp;first|with_reducible exact⟨rfl,rfl⟩|with_reducible rfl) (hput _ _ _ (hput _ _ _ hC6)) ?_;simp only[zuI]
 repeat
  apply zJ (by rw[hY];rfl)
  ·intro w2 hS2;(try simp only[Keeps,zbT,Cells]at hS2);go_simp;with_reducible rfl
  simp only[zuI]
 refine zdC (by rw[hY];rfl) (by go_simp;first|with_reducible exact⟨rfl,rfl⟩|with_reducible rfl) (hput _ _ _ (hput _ _ _ (hput _ _ _ hC6))) ?_;simp only[zuI];refine yE (hF.out _ _ (fun K hK=> ?_));clear hF hY;have T7:St S S gh gc m ⟨some ⟨gh,0,none⟩,ch,ab,cb,some ⟨gc,0,none⟩,cc⟩ (((w6.setCell ⟨S,2,none⟩ (.slice (some ⟨gh,0,none⟩) m.heads.length ch)).setCell ⟨S,3,none⟩ (.slice ab m.bytes.length cb)).setCell ⟨S,8,none⟩ (.slice (some ⟨gc,0,none⟩) m.ctrs.length cc)):=by
  have oh6:=(oh4.step hb5).step hb6;have hd:=hd3.size;have h4:=hb4.size;have h5:=hb5.size;have d1:¬gh=S:=by omega
  have d2:¬gc=S:=by omega
  exact⟨((S6.set 2 _).set 3 _).set 8 _,rfl,rfl,zD _,by omega,by omega,((oh6.other S 2 _ d1).other S 3 _ d1).other S 8 _ d1,((oc6.other S 2 _ d2).other S 3 _ d2).other S 8 _ d2,
   zfH (zfH (zfH (owns_base (yX (B:=0) ob5 hb6) (by omega)) S6 (by decide)) (S6.set 2 _) (by decide)) ((S6.set 2 _).set 3 _) (by decide)⟩
 have hB7:Below w.heap.size w (((w6.setCell ⟨S,2,none⟩ (.slice (some ⟨gh,0,none⟩) m.heads.length ch)).setCell ⟨S,3,none⟩ (.slice ab m.bytes.length cb)).setCell ⟨S,8,none⟩ (.slice (some ⟨gc,0,none⟩) m.ctrs.length cc)):=
  (((zA hB3 hE6).setCell (p:=⟨S,2,none⟩) (show w.heap.size≤S by omega) _).setCell (p:=⟨S,3,none⟩) (show w.heap.size≤S by omega) _).setCell (p:=⟨S,8,none⟩) (show w.heap.size≤S by omega) _
 have d3:¬w.heap.size+1=S:=by omega
 have R7:=(((R3.step hE6).other S 2 (.slice (some ⟨gh,0,none⟩) m.heads.length ch) d3).other S 3 (.slice ab m.bytes.length cb) d3).other S 8 (.slice (some ⟨gc,0,none⟩) m.ctrs.length cc) d3;go_wp2_with fail;refine OnlyK.mk (hK.out _ _ ?_);clear hK hput hC3 hC4 hC5 hC6 z2 z3 z8 g2 g3 g8 oh4 ob5 oc6 hgh hgc A3 R3 S3 S6;obtain⟨w7,hw7⟩:∃w7,(((w6.setCell ⟨S,2,none⟩ (.slice (some ⟨gh,0,none⟩) m.heads.length ch)).setCell ⟨S,3,none⟩ (.slice ab m.bytes.length cb)).setCell ⟨S,8,none⟩ (.slice (some ⟨gc,0,none⟩) m.ctrs.length cc))=w7:=⟨_,rfl⟩;rw[hw7]at T7 hB7 R7⊢;clear hw7;go_wp2_with fail;refine(HLn.out S S gh gc _ _ T7).mono ?_;rintro e w8 ⟨rfl,T8,hb8⟩;have hB8:=hB7.trans (hb8.mono (show w.heap.size≤S by omega));have R8:=R7.below hb8 (by omega);obtain⟨n,hn⟩:∃n,S12.learn m b=n:=⟨_,rfl⟩;rw[hn]at T8 HLrn;have hWF:=HHWF.out;have hL:=HLrn.out;have hmR:mR=S12.expect (S12.take n (2*n.part+b)):=by rw[←HmR.out];unfold S12.bitM;rw[hn]
 obtain⟨P,hP⟩:∃P,2*n.part+b=P:=⟨_,rfl⟩;have hpr:1≤n.part∧n.part≤255:=by rw[hL.part];exact hWF.part
 have hPr:2≤P∧P≤511:=by omega
 have hPf:P≤255:=by have:=hL.part;omega
 have hPd:decide (255<P)=false:=by simp;omega
 rw[hP]at hmR;have ht:S12.take n P = {n with part:=P}:=by unfold S12.take;rw[zG (by omega)]
 rw[ht]at hmR;have HmR2:=zB hmR;have T9:St S S gh gc {n with part:=P} ⟨some ⟨gh,0,none⟩,ch,ab,cb,some ⟨gc,0,none⟩,cc⟩ (w8.setCell ⟨S,6,none⟩ (.int .i64 P)):=T8.put 6 _ rfl rfl rfl rfl;have hB9:=hB8.setCell (p:=⟨S,6,none⟩) (show w.heap.size≤S by omega) (.int .i64 P);have R9:=R8.other S 6 (.int .i64 P) d3;obtain⟨x0,x1,x2,x3,x4,x5,x6,x7,x8⟩:=T8.blk.nine;have f6:=T8.blk.free 6;clear hmR ht hWF HLn HmR;have HLrn2:=zB hL;clear HLrn hL;have hby:S12.Byt n.bytes:=by rw[HLrn2.out.bytes];exact HM.out.byt
 have T21:St S S gh gc {({n with part:=P}:S12.M)with bit:=2} (⟨some ⟨gh,0,none⟩,ch,ab,cb,some ⟨gc,0,none⟩,cc⟩:Pl) ((w8.setCell ⟨S,6,none⟩ (.int .i64 P)).setCell ⟨S,7,none⟩ (.int .i64 2)):=(T9).put 7 _ rfl rfl rfl rfl;have hB21:=(hB9).setCell (p:=⟨S,7,none⟩) (show w.heap.size≤S by omega) (.int .i64 2);have R21:=(R9).other S 7 (.int .i64 2) d3;obtain⟨x0,x1,x2,x3,x4,x5,x6,x7,x8⟩:=(T9).blk.nine;have f7:=(T9).blk.free 7;have hd3:¬S=w.heap.size+1:=fun e=>d3 e.symm;have lS:=T21.blk.lt;by_cases hln:0<(({n with part:=P}:S12.M)).len
 ·have eR:mR = {({n with part:=P}:S12.M)with bit:=S12.expI ((({n with part:=P}:S12.M)).bytes.getD (({n with part:=P}:S12.M)).at_.toNat 0) (({n with part:=P}:S12.M)).part}:=by rw[HmR2.out];unfold S12.expect;rw[zO hln]
  have hWR:S12.WF {({n with part:=P}:S12.M)with bit:=S12.expI ((({n with part:=P}:S12.M)).bytes.getD (({n with part:=P}:S12.M)).at_.toNat 0) (({n with part:=P}:S12.M)).part}:=by rw[←eR];exact HWF'.out
  have hma:=hWR.Mat (show(({n with part:=P}:S12.M)).len≠0 by omega);have hma1:(({n with part:=P}:S12.M)).len≤(({n with part:=P}:S12.M)).at_∧(({n with part:=P}:S12.M)).at_≤((({n with part:=P}:S12.M)).bytes.length:Int)-1:=hma.at_;have hma2:1≤(({n with part:=P}:S12.M)).len∧(({n with part:=P}:S12.M)).len≤255:=hma.len;have hR1:(({n with part:=P}:S12.M)).heads.length≤65536:=hWR.sizes.1;have hR2:(({n with part:=P}:S12.M)).bytes.length≤65536:=hWR.sizes.2.1;have hR3:(({n with part:=P}:S12.M)).ctrs.length≤65536:=hWR.sizes.2.2;obtain⟨q,hq⟩:∃q:Nat,(({n with part:=P}:S12.M)).at_=q:=⟨(({n with part:=P}:S12.M)).at_.toNat,by omega⟩;have hx0:0≤(({n with part:=P}:S12.M)).bytes.getD q 0:=hby.get q;have hx1:((({n with part:=P}:S12.M)).bytes.getD q 0).toNat<256:=hby.at q;obtain⟨xn,hxn⟩:∃xn:Nat,(({n with part:=P}:S12.M)).bytes.getD q 0=xn:=⟨((({n with part:=P}:S12.M)).bytes.getD q 0).toNat,(Int.toNat_of_nonneg hx0).symm⟩;have hxn2:xn<256:=by rw[hxn]at hx1;omega
  obtain⟨gB,oB,eB,hcB⟩:=zqY (Rd.of_owns T21.ob) (i:=q) (show q<(({n with part:=P}:S12.M)).bytes.length by omega);have hcB2:=hcB q (show q<(({n with part:=P}:S12.M)).bytes.length by omega);have hap:=T21.apart (show w.heap.size+1<S by omega);have Hfar:=zB (T21.far.mono (show w.heap.size≤S by omega));simp only at eB hcB2;rw[show(({n with part:=P}:S12.M)).bytes.getD q 0=(xn:Int)from hxn]at hcB2;have hgS:¬S=gB:=fun e=>zbQ T21.ob T21.blk (by decide) (by simp only;rw[eB,e];rfl)
  have hC21:zbT [(⟨S,3,none⟩,.slice (some ⟨gB,oB,none⟩) (({n with part:=P}:S12.M)).bytes.length ((⟨some ⟨gh,0,none⟩,ch,ab,cb,some ⟨gc,0,none⟩,cc⟩:Pl)).cb),(⟨S,4,none⟩,.int .i64 (q:Int)),(⟨S,6,none⟩,.int .i64 (({n with part:=P}:S12.M)).part),(⟨gB,oB+q,none⟩,.int .u8 (xn:Int))] ((w8.setCell ⟨S,6,none⟩ (.int .i64 P)).setCell ⟨S,7,none⟩ (.int .i64 2)):=
   ⟨by rw[←eB];exact T21.blk.cell 3,by rw[←hq];exact T21.blk.cell 4,T21.blk.cell 6,hcB2,yF⟩
  have HEx:=zB fun W=>zgL xn hxn2 (({n with part:=P}:S12.M)).part W;obtain⟨bv,hbv⟩:∃bv,S12.optN (S12.exp xn (({n with part:=P}:S12.M)).part)=bv:=⟨_,rfl⟩;have hbv2:S12.expI ((({n with part:=P}:S12.M)).bytes.getD (({n with part:=P}:S12.M)).at_.toNat 0) (({n with part:=P}:S12.M)).part=bv:=by rw[S12.expI_eq,hq,Int.toNat_natCast,hxn,Int.toNat_natCast,hbv]
  rw[hbv]at HEx;rw[hbv2]at eR;have HeR:=zB eR;have hql:q<(({n with part:=P}:S12.M)).bytes.length:=by omega
  clear hma hma1 hma2 hWR hbv hbv2 hxn hcB hcB2 eR hq;have eln:decide (0<(({n with part:=P}:S12.M)).len)=true:=zQ hln;clear hln;obtain⟨isS,hisS⟩:∃isS,(S12.exp xn (({n with part:=P}:S12.M)).part).isSome=isS:=⟨_,rfl⟩;rw[hisS]at HEx;clear hisS;go_wp2_with fail;obtain⟨w21,hw21⟩:∃w21,(w8.setCell ⟨S,6,none⟩ (.int .i64 P)).setCell ⟨S,7,none⟩ (.int .i64 2)=w21:=⟨_,rfl⟩;rw[hw21]at T21 hB21 R21 hC21⊢;clear hw21 x0 x1 x2 x3 x4 x5 x6 x7 x8 f7 eln;refine zuL 26 0 [(U,[U,U,U,U,U,U,U,U,U,U,U,U,U,U,U,U,U,U]),(zuH,[zuH,zuH,zuH,zuH,zuH,zuH,zuH,zuH,zuH,zuH,zuH,zuH,zuH,zuH,zuH,zuH,zuH,zuH,U]),(U,[zuH,zuH,zuH,zuH,zuH,zuH,zuH,zuH,zuH,zuH,zuH,zuH,zuH,zuH,zuH,zuH,zuH,zuH,zuH,U,U,U,U,U,U]),(zuH,[zuH,zuH,zuH,zuH,zuH,zuH,zuH,zuH,zuH,zuH,zuH,zuH,zuH,zuH,zuH,zuH,zuH,zuH,zuH,zuH,zuH,zuH,zuH,zuH,zuH,U])] (zbT [(⟨S,3,none⟩,.slice (some ⟨gB,oB,none⟩) (({n with part:=P}:S12.M)).bytes.length ((⟨some ⟨gh,0,none⟩,ch,ab,cb,some ⟨gc,0,none⟩,cc⟩:Pl)).cb),(⟨S,4,none⟩,.int .i64 (q:Int)),(⟨S,6,none⟩,.int .i64 (({n with part:=P}:S12.M)).part),(⟨gB,oB+q,none⟩,.int .u8 (xn:Int))]) (by kernel_rfl) (hC21) (fun Y Q4 F4 hY hF=> ?_);simp only[zuJ]
  repeat
   apply zJ (by rw[hY];rfl)
   ·intro w2 hS2;(try simp only[Keeps,zbT,Cells]at hS2);go_simp;with_reducible rfl
   simp only[zuI]
  apply zR (by rw[hY];rfl)
  ·go_simp;with_reducible exact⟨rfl,rfl⟩
  refine(HEx.out _).mono ?_;rintro e w22 ⟨rfl,hb22⟩;have hE22:=zA (zcK w21.heap.size w21) hb22;have hC22:=Cells.step hE22 hC21;refine⟨_,rfl,hC22,?_⟩;simp only[zuI]
  repeat
   apply zJ (by rw[hY];rfl)
   ·intro w2 hS2;(try simp only[Keeps,zbT,Cells]at hS2);go_simp;with_reducible rfl
   simp only[zuI]
  have T22:=T21.step hE22;have y7:w22.cell? ⟨S,7,none⟩=some (.int .i64 2):=T22.blk.cell 7;have f7:=T22.blk.free 7;have hgS2:¬(S=S∧7=3):=by omega
  refine zdC (by rw[hY];rfl) (by go_simp;first|with_reducible exact⟨rfl,rfl⟩|with_reducible rfl) ((show zbT _ _ from⟨(World.cell?_setCell_other w22 ⟨S,7,none⟩ ⟨S,3,none⟩ _ (by simp)).trans hC22.1,(World.cell?_setCell_other w22 ⟨S,7,none⟩ ⟨S,4,none⟩ _ (by simp)).trans hC22.2.1,(World.cell?_setCell_other w22 ⟨S,7,none⟩ ⟨S,6,none⟩ _ (by simp)).trans hC22.2.2.1,(zaU w22 S 7 _ _ _ hgS).trans hC22.2.2.2.1,yF⟩)) ?_;simp only[zuI];refine yE (hF.out _ _ (fun K hK=> ?_));clear hF hY;have T23:St S S gh gc {({n with part:=P}:S12.M)with bit:=bv} (⟨some ⟨gh,0,none⟩,ch,ab,cb,some ⟨gc,0,none⟩,cc⟩:Pl) (w22.setCell ⟨S,7,none⟩ (.int .i64 bv)):=T22.put 7 _ rfl rfl rfl rfl;have hB23:=(zA hB21 hE22).setCell (p:=⟨S,7,none⟩) (show w.heap.size≤S by omega) (.int .i64 bv);have R23:=(R21.step hE22).other S 7 (.int .i64 bv) d3;go_wp2_with fail;refine OnlyK.mk (hK.out _ _ ?_);clear hK y7 f7 hC22 hC21 T22;obtain⟨w23,hw23⟩:∃w23,w22.setCell ⟨S,7,none⟩ (.int .i64 bv)=w23:=⟨_,rfl⟩;rw[hw23]at T23 hB23 R23⊢;clear hw23;have hmis:=T23.mis hby hR1 hR2 hR3;obtain⟨x0,x1,x2,x3,x4,x5,x6,x7,x8⟩:=T23.blk.nine;obtain⟨z0,z1,z2,z3,z4,z5,z6,z7,z8⟩:=R23.nine;have q0:=R23.free 0;have q1:=R23.free 1;have q2:=R23.free 2;have q3:=R23.free 3;have q4:=R23.free 4;have q5:=R23.free 5;have q6:=R23.free 6;have q7:=R23.free 7;have q8:=R23.free 8;have Hm:=zB hmis;have Ha:=zB hap;clear hmis hap;have eR:=HeR.out;subst eR;obtain⟨y0,y1,y2,y3,y4,y5,y6,y7,y8⟩:=(R23.put9 (.int .i64 (({n with part:=P}:S12.M)).bits) (.int .i64 (({n with part:=P}:S12.M)).least) (.slice ((⟨some ⟨gh,0,none⟩,ch,ab,cb,some ⟨gc,0,none⟩,cc⟩:Pl)).ah (({n with part:=P}:S12.M)).heads.length ((⟨some ⟨gh,0,none⟩,ch,ab,cb,some ⟨gc,0,none⟩,cc⟩:Pl)).ch) (.slice (some ⟨gB,oB,none⟩) (({n with part:=P}:S12.M)).bytes.length ((⟨some ⟨gh,0,none⟩,ch,ab,cb,some ⟨gc,0,none⟩,cc⟩:Pl)).cb) (.int .i64 (({n with part:=P}:S12.M)).at_) (.int .i64 (({n with part:=P}:S12.M)).len) (.int .i64 (({n with part:=P}:S12.M)).part) (.int .i64 bv) (.slice ((⟨some ⟨gh,0,none⟩,ch,ab,cb,some ⟨gc,0,none⟩,cc⟩:Pl)).ac (({n with part:=P}:S12.M)).ctrs.length ((⟨some ⟨gh,0,none⟩,ch,ab,cb,some ⟨gc,0,none⟩,cc⟩:Pl)).cc)).nine;go_wp2_with (exact bodyPost_ret (v:=.tuple #[MV {({n with part:=P}:S12.M)with bit:=bv} (⟨some ⟨gh,0,none⟩,ch,ab,cb,some ⟨gc,0,none⟩,cc⟩:Pl),.int .i64 0]) (by simp[results,Tryz.results165,go_sem,MV,zbJ,y0,y1,y2,y3,y4,y5,y6,y7,y8,eB]) rfl ⟨(⟨some ⟨gh,0,none⟩,ch,ab,cb,some ⟨gc,0,none⟩,cc⟩:Pl),rfl,Hm.out.put9 Ha.out.1 Ha.out.2.1 Ha.out.2.2 _ _ _ _ _ _ _ _ _,Hfar.out,zeA hB23 (Nat.le_succ _) _ _ _ _ _ _ _ _ _⟩)
 ·have eR:mR = {({n with part:=P}:S12.M)with bit:=2}:=by rw[HmR2.out];unfold S12.expect;rw[zG hln]
  have hWR:S12.WF {({n with part:=P}:S12.M)with bit:=2}:=by rw[←eR];exact HWF'.out
  have hR1:(({n with part:=P}:S12.M)).heads.length≤65536:=hWR.sizes.1;have hR2:(({n with part:=P}:S12.M)).bytes.length≤65536:=hWR.sizes.2.1;have hR3:(({n with part:=P}:S12.M)).ctrs.length≤65536:=hWR.sizes.2.2;have hmis:=T21.mis hby hR1 hR2 hR3;have hap:=T21.apart (show w.heap.size+1<S by omega);have Hfar:=zB (T21.far.mono (show w.heap.size≤S by omega));have eln:decide (0<(({n with part:=P}:S12.M)).len)=false:=yD hln;obtain⟨z0,z1,z2,z3,z4,z5,z6,z7,z8⟩:=(R9).nine;have q0:=(R9).free 0;have q1:=(R9).free 1;have q2:=(R9).free 2;have q3:=(R9).free 3;have q4:=(R9).free 4;have q5:=(R9).free 5;have q6:=(R9).free 6;have q7:=(R9).free 7;have q8:=(R9).free 8;have Hm:=zB hmis;have Ha:=zB hap;have HeR:=zB eR;clear hmis hap eR hWR hln;have eR:=HeR.out;subst eR;obtain⟨y0,y1,y2,y3,y4,y5,y6,y7,y8⟩:=(R21.put9 (.int .i64 (({n with part:=P}:S12.M)).bits) (.int .i64 (({n with part:=P}:S12.M)).least) (.slice ((⟨some ⟨gh,0,none⟩,ch,ab,cb,some ⟨gc,0,none⟩,cc⟩:Pl)).ah (({n with part:=P}:S12.M)).heads.length ((⟨some ⟨gh,0,none⟩,ch,ab,cb,some ⟨gc,0,none⟩,cc⟩:Pl)).ch) (.slice ((⟨some ⟨gh,0,none⟩,ch,ab,cb,some ⟨gc,0,none⟩,cc⟩:Pl)).ab (({n with part:=P}:S12.M)).bytes.length ((⟨some ⟨gh,0,none⟩,ch,ab,cb,some ⟨gc,0,none⟩,cc⟩:Pl)).cb) (.int .i64 (({n with part:=P}:S12.M)).at_) (.int .i64 (({n with part:=P}:S12.M)).len) (.int .i64 (({n with part:=P}:S12.M)).part) (.int .i64 2) (.slice ((⟨some ⟨gh,0,none⟩,ch,ab,cb,some ⟨gc,0,none⟩,cc⟩:Pl)).ac (({n with part:=P}:S12.M)).ctrs.length ((⟨some ⟨gh,0,none⟩,ch,ab,cb,some ⟨gc,0,none⟩,cc⟩:Pl)).cc)).nine;go_wp2_with (exact bodyPost_ret (v:=.tuple #[MV {({n with part:=P}:S12.M)with bit:=2} (⟨some ⟨gh,0,none⟩,ch,ab,cb,some ⟨gc,0,none⟩,cc⟩:Pl),.int .i64 0]) (by simp[results,Tryz.results165,go_sem,MV,zbJ,y0,y1,y2,y3,y4,y5,y6,y7,y8]) rfl ⟨(⟨some ⟨gh,0,none⟩,ch,ab,cb,some ⟨gc,0,none⟩,cc⟩:Pl),rfl,Hm.out.put9 Ha.out.1 Ha.out.2.1 Ha.out.2.2 _ _ _ _ _ _ _ _ _,Hfar.out,zeA hB21 (Nat.le_succ _) _ _ _ _ _ _ _ _ _⟩)
end Go.Proofs.YtahaacfikalheaaGreat
namespace Go.Proofs.YtahaacfikalheaaGreat
open Go.RowKit
def S12.bitR(m:S12.M)(b:Int):S12.M:=if S12.bitE m b=0 then S12.bitM m b else S12.zero
def ZV:Value:=.agg #[.int .i64 0,.int .i64 0,.slice none 0 0,.slice none 0 0,.int .i64 0,.int .i64 0,.int .i64 0,.int .i64 0,.slice none 0 0]
theorem bit12_err(m:S12.M)(p:Pl)(b:Int)(w:World)(hM:MIs m p w)(hE:S12.bitE m b≠0) :
 Calls Tryz.prog 165 #[MV m p,.int .i64 b] w fun e w'=>e = .returned (.tuple #[ZV,.int .i64 (S12.bitE m b)])∧Below w.heap.size w w':=by
 have HCk:=zB fun W hW=>zfX m p W hW;have HW:=zB fun W=>zcO b 0 1 W;obtain⟨C,hC⟩:∃C,S12.check m=C:=⟨_,rfl⟩;have hEE:S12.bitE m b=if C≠0 then C else if¬(0≤b∧b≤1)then 1 else if 128≤m.part∧65536≤m.bytes.length then 11 else 0:=by unfold S12.bitE;rw[hC]
 rw[hC]at HCk;have hfew:C=0→m.bytes.length≤65536:=fun h=>((S12.check_iff m).1 (hC.trans h)).few;obtain⟨E,hEq⟩:∃E,S12.bitE m b=E:=⟨_,rfl⟩;rw[hEq]at hEE hE⊢;have HM:=zB hM;have hB0:Below w.heap.size w ((w.alloc (.cells (zbJ m p).toArray 71)).alloc (.cells #[.int .i64 0,.int .i64 0,.slice none 0 0,.slice none 0 0,.int .i64 0,.int .i64 0,.int .i64 0,.int .i64 0,.slice none 0 0] 71)):=by go_grown
 have A0:Blk ((w.alloc (.cells (zbJ m p).toArray 71)).alloc (.cells #[.int .i64 0,.int .i64 0,.slice none 0 0,.slice none 0 0,.int .i64 0,.int .i64 0,.int .i64 0,.int .i64 0,.slice none 0 0] 71)) w.heap.size (zbJ m p) 71:=(Blk.new w _ _).alloc _;have R0:Blk ((w.alloc (.cells (zbJ m p).toArray 71)).alloc (.cells #[.int .i64 0,.int .i64 0,.slice none 0 0,.slice none 0 0,.int .i64 0,.int .i64 0,.int .i64 0,.int .i64 0,.slice none 0 0] 71)) (w.heap.size+1) [.int .i64 0,.int .i64 0,.slice none 0 0,.slice none 0 0,.int .i64 0,.int .i64 0,.int .i64 0,.int .i64 0,.slice none 0 0] 71:=by
  have h:=Blk.new (w.alloc (.cells (zbJ m p).toArray 71)) [.int .i64 0,.int .i64 0,.slice none 0 0,.slice none 0 0,.int .i64 0,.int .i64 0,.int .i64 0,.int .i64 0,.slice none 0 0] 71;simpa using h
 clear hM hEq hC;have hfin:∀(X:World),Below w.heap.size w X→Below w.heap.size w _:=fun X h=>zeA h (Nat.le_succ _) (.int .i64 0) (.int .i64 0) (.slice none 0 0) (.slice none 0 0) (.int .i64 0) (.int .i64 0) (.int .i64 0) (.int .i64 0) (.slice none 0 0);have Hfin:=zB hfin;clear hfin;unfold MV at HCk;unfold zbJ at HCk A0 R0 hB0;show Calls Tryz.prog 165 #[.agg #[.int .i64 m.bits,.int .i64 m.least,.slice p.ah m.heads.length p.ch,.slice p.ab m.bytes.length p.cb,.int .i64 m.at_,.int .i64 m.len,.int .i64 m.part,.int .i64 m.bit,.slice p.ac m.ctrs.length p.cc],.int .i64 b] w _;go_enter Tryz.func165,Tryz.ntmps165;obtain⟨x0,x1,x2,x3,x4,x5,x6,x7,x8⟩:=A0.nine;obtain⟨w0,hw0⟩:∃w0,((w.alloc (.cells #[.int .i64 m.bits,.int .i64 m.least,.slice p.ah m.heads.length p.ch,.slice p.ab m.bytes.length p.cb,.int .i64 m.at_,.int .i64 m.len,.int .i64 m.part,.int .i64 m.bit,.slice p.ac m.ctrs.length p.cc] 71)).alloc (.cells #[.int .i64 0,.int .i64 0,.slice none 0 0,.slice none 0 0,.int .i64 0,.int .i64 0,.int .i64 0,.int .i64 0,.slice none 0 0] 71))=w0:=⟨_,rfl⟩;rw[hw0]at hB0 A0 R0 x0 x1 x2 x3 x4 x5 x6 x7 x8;go_wp2_with fail;refine(HCk.out _ (HM.out.step hB0)).mono ?_;rintro e w1 ⟨rfl,hb1⟩;have hB1:=zA hB0 hb1;have R1:=R0.step hb1;have A1:=A0.step hb1;clear x0 x1 x2 x3 x4 x5 x6 x7 x8 A0 R0 hw0;by_cases hC0:C≠0
 ·rw[zO hC0]at hEE;subst hEE;have eC:(E != 0)=true:=by simp[hC0]
  obtain⟨z0,z1,z2,z3,z4,z5,z6,z7,z8⟩:=R1.nine;have f0:=R1.free 0;have f1:=R1.free 1;have f2:=R1.free 2;have f3:=R1.free 3;have f4:=R1.free 4;have f5:=R1.free 5;have f6:=R1.free 6;have f7:=R1.free 7;have f8:=R1.free 8;obtain⟨y0,y1,y2,y3,y4,y5,y6,y7,y8⟩:=(R1.put9 (.int .i64 0) (.int .i64 0) (.slice none 0 0) (.slice none 0 0) (.int .i64 0) (.int .i64 0) (.int .i64 0) (.int .i64 0) (.slice none 0 0)).nine;go_wp2_with (exact bodyPost_ret (v:=.tuple #[ZV,.int .i64 E]) (by simp[results,Tryz.results165,go_sem,ZV,y0,y1,y2,y3,y4,y5,y6,y7,y8]) rfl ⟨rfl,Hfin.out _ hB1⟩)
 replace hC0:=Classical.not_not.1 hC0;subst hC0;rw[zG (by simp)]at hEE;go_wp2_with fail;refine(HW.out _).mono ?_;rintro e w2 ⟨rfl,hb2⟩;have hB2:=zA hB1 hb2;have R2:=R1.step hb2;have A2:=A1.step hb2;clear R1 A1;obtain⟨z0,z1,z2,z3,z4,z5,z6,z7,z8⟩:=R2.nine;have f0:=R2.free 0;have f1:=R2.free 1;have f2:=R2.free 2;have f3:=R2.free 3;have f4:=R2.free 4;have f5:=R2.free 5;have f6:=R2.free 6;have f7:=R2.free 7;have f8:=R2.free 8;obtain⟨y0,y1,y2,y3,y4,y5,y6,y7,y8⟩:=(R2.put9 (.int .i64 0) (.int .i64 0) (.slice none 0 0) (.slice none 0 0) (.int .i64 0) (.int .i64 0) (.int .i64 0) (.int .i64 0) (.slice none 0 0)).nine;by_cases hb:¬(0≤b∧b≤1)
 ·rw[zO hb]at hEE;subst hEE;rw[yD hb];go_wp2_with (exact bodyPost_ret (v:=.tuple #[ZV,.int .i64 1]) (by simp[results,Tryz.results165,go_sem,ZV,y0,y1,y2,y3,y4,y5,y6,y7,y8]) rfl ⟨rfl,Hfin.out _ hB2⟩)
 replace hb:=Classical.not_not.1 hb;rw[zG (by omega)]at hEE;rw[zQ hb];by_cases hf:128≤m.part∧65536≤m.bytes.length
 ·rw[zO hf]at hEE;subst hEE;have d1:decide (128≤m.part)=true:=zQ hf.1;have d2:decide (65536≤(m.bytes.length:Int))=true:=zQ (by omega);have x3:w2.cell? ⟨w.heap.size,3,none⟩=some (.slice p.ab m.bytes.length p.cb):=A2.cell 3;have x6:w2.cell? ⟨w.heap.size,6,none⟩=some (.int .i64 m.part):=A2.cell 6;have hbN:m.bytes.length<9223372036854775808:=by have:=hfew yF;omega
  clear hf hfew hb;go_wp2_with (exact bodyPost_ret (v:=.tuple #[ZV,.int .i64 11]) (by simp[results,Tryz.results165,go_sem,ZV,y0,y1,y2,y3,y4,y5,y6,y7,y8]) rfl ⟨rfl,Hfin.out _ hB2⟩)
 ·rw[zG hf]at hEE;exact absurd hEE hE
theorem bit12_any(m:S12.M)(p:Pl)(b:Int)(w:World)(hM:MIs m p w) :
 Calls Tryz.prog 165 #[MV m p,.int .i64 b] w fun e w'=>∃p',e = .returned (.tuple #[MV (S12.bitR m b) p',.int .i64 (S12.bitE m b)])∧MIs (S12.bitR m b) p' w'∧Far w.heap.size p'∧Below w.heap.size w w':=by
 unfold S12.bitR;by_cases hE:S12.bitE m b=0
 ·rw[zO hE,hE];by_cases hf:128≤m.part
  ·exact bit12_full m p b w hM hE hf
  ·exact bit12_part m p b w hM hE hf
 ·rw[zG hE];refine(bit12_err m p b w hM hE).mono ?_;rintro e w' ⟨rfl,hb⟩;exact⟨_,rfl,MIs.zero _,Far.none _,hb⟩
end Go.Proofs.YtahaacfikalheaaGreat
namespace Go.Proofs.YtahaacfikalheaaGreat
open Go.RowKit
