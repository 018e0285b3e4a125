/- A part of the proof of L14l. No condition. -/
import Derived.Test.YthhgkafloejjiaaGreatZL14lbh
import Derived.Test.YthhgkafloejjiaaGreatZL14lbi
set_option linter.all false
set_option maxRecDepth 100000
set_option maxHeartbeats 8000000
namespace Go.Proofs.YthhgkafloejjiaaGreat
open Go.RowKit
def Ap(m:S12.M)(p:Pl)(b:Nat):Prop:=(∀g o,p.ah=some ⟨g,o,none⟩→zaE m.heads≠ []→¬g=b)∧(∀g o,p.ab=some ⟨g,o,none⟩→Bts m.bytes≠ []→¬g=b)∧(∀g o,p.ac=some ⟨g,o,none⟩→Cts m.ctrs≠ []→¬g=b)
theorem Rd.setO{w:World}{a:Option Addr}{vals:List Value}(h:Rd w a vals){b:Nat}(f:∀g o,a=some ⟨g,o,none⟩→vals≠ []→¬g=b)(i:Nat)(v:Value):Rd (w.setCell ⟨b,i,none⟩ v) a vals:=fun c=>by
 obtain⟨g,o,e,k⟩:=h c;exact⟨g,o,e,fun j u l=>(zaM w b i g (o+j) v (fun d=>f g o e c d.symm)).trans (k j u l)⟩
theorem MIs.setO{m:S12.M}{p:Pl}{w:World}(h:MIs m p w){b:Nat}(a:Ap m p b)(i:Nat)(v:Value):MIs m p (w.setCell ⟨b,i,none⟩ v):=
 ⟨h.rdh.setO a.1 i v,h.rdb.setO a.2.1 i v,h.rdc.setO a.2.2 i v,h.byt,h.cb,h.lh,h.lb,h.lc⟩
theorem MIs.ap{m:S12.M}{p:Pl}{w:World}(h:MIs m p w){b:Nat}(l:w.heap.size≤b):Ap m p b:=by
 have c:∀{a:Option Addr} {f:List Value},Rd w a f→∀g o,a=some ⟨g,o,none⟩→f≠ []→¬g=b:=fun k g o e i=>by
  obtain⟨r,q,d,j⟩:=k i;rw[e]at d;cases d;cases hv : ‹List Value› with
  | nil=>exact absurd hv i
  | cons v n=>
    have:=zE (j 0 v (by rw[hv];rfl));simp only at this;omega
 exact⟨c h.rdh,c h.rdb,c h.rdc⟩
theorem Ap.new{m m':S12.M}{p q:Pl}{b B:Nat}(c:Ap m p b)(r:b<B)(k:NewPl B p q)(l:m'.heads.length=m.heads.length)(j:m'.ctrs=m.ctrs):Ap m' q b:=by
 obtain⟨i,f,d⟩:=k;refine⟨fun g o e a=> ?_,fun g o e a=> ?_,fun g o e a=> ?_⟩
 ·rcases i with n|n
  ·refine c.1 g o (n▸e) (fun h=>a ?_);have:=yG List.length h;rw[zR,←l]at this;exact List.length_eq_zero_iff.1 (by rw[zR];exact this)
  ·have:=n g o e;omega
 ·have:=f g o e;omega
 ·rcases d with n|n
  ·exact c.2.2 g o (n▸e) (by rw[←j];exact a)
  ·have:=n g o e;omega
theorem S12.se_heads(n:S12.M):(S12.search (S12.extend n)).heads.length=n.heads.length:=by
 unfold S12.search S12.extend;split<;>split<;>simp
theorem S12.se_ctrs(n:S12.M):(S12.search (S12.extend n)).ctrs=n.ctrs:=by
 unfold S12.search S12.extend;split<;>split<;>simp
theorem rupd12_ok{p n r:Int}(h:S08.check p n 255=0)(c:r=0∨r=1)(w:World) :
 Calls Tryz.prog 82 #[.agg #[p,n],r,.int .i64 255] w fun e b=>e = .returned (.tuple #[.agg #[(S08.step p n r),.int .i64 (min (n+1) 255)],.int .i64 0])∧Below w w b:=by
 have a:=ziB p n r 255 w;rw[S08.updateV_ok (by unfold S08.updateE;rw[zG om,zG om])]at a;exact a
theorem zuD(n:S12.M)(p:Pl)(w:World)(y:Nat)(u:1≤n.bits∧n.bits≤16)(v:1≤n.least∧n.least≤32)(f:n.heads.length=2^n.bits.toNat)
 (s:∀x∈n.heads,0≤x∧x≤n.bytes.length) (m:n.bytes.length<65536) (t:n.part=256+(y:Int)) (j:y<256) (g:0≤n.len∧n.len≤255) (r:0≤n.at_∧n.at_≤65536) (o:MIs n p w) :
 Calls Tryz.prog 89 #[MV n p] w fun e b=>∃a,e = .returned (MV (S12.search (S12.extend {n with bytes:=n.bytes ++ [(y:Int)],part:=1})) a)∧MIs (S12.search (S12.extend {n with bytes:=n.bytes ++ [(y:Int)],part:=1})) a b∧NewPl w.heap.size p a∧Below w w b:=by
 obtain⟨d,c,heads,bytes,at_,q,part,h,l⟩:=n;simp only at *;obtain⟨i,rfl⟩:∃k:Nat,d=k:=⟨d.toNat,by omega⟩;obtain⟨L,rfl⟩:∃k:Nat,c=k:=⟨c.toNat,by omega⟩;exact zqD i L y heads bytes at_ q part h l p w om om (by simpa using f) s m t j g r o
def zM9:List Value:=[.int .i64 0,.int .i64 0,.slice none 0 0,.slice none 0 0,.int .i64 0,.int .i64 0,.int .i64 0,.int .i64 0,.slice none 0 0]
theorem info_M12:(Tryz.prog.info? 43).map (·.size)=some 9:=by kernel_rfl
def NP(B:Nat)(m:S12.M)(p:Pl)(n:S12.M)(q:Pl):Prop:=((q.ah=p.ah∧n.heads.length=m.heads.length)∨∀g o,q.ah=some ⟨g,o,none⟩→B≤g)∧((q.ab=p.ab∧n.bytes.length=m.bytes.length)∨∀g o,q.ab=some ⟨g,o,none⟩→B≤g)∧((q.ac=p.ac∧n.ctrs.length=m.ctrs.length)∨∀g o,q.ac=some ⟨g,o,none⟩→B≤g)
theorem Rd.rowA{w w':World}{a:Option Addr}{vals:List Value}(h:Rd w a vals){b:Nat}(l:w.grownBy w' (some b))(f:∀g o,a=some ⟨g,o,none⟩→vals≠ []→¬g=b):Rd w' a vals:=fun d=>by
 obtain⟨g,o,e,k⟩:=h d;refine⟨g,o,e,fun j u i=> ?_⟩;have c:=k j u i;exact(World.cell?_of_block (l.block g (zE c) (fun m=>f g o e d (zI m)))).trans c
theorem MIs.rowA{m:S12.M}{p:Pl}{w w':World}(h:MIs m p w){b:Nat}(c:Ap m p b)(a:w.grownBy w' (some b)):MIs m p w':=⟨h.rdh.rowA a c.1,h.rdb.rowA a c.2.1,h.rdc.rowA a c.2.2,h.byt,h.cb,h.lh,h.lb,h.lc⟩
structure BS(w0:World)(m:S12.M)(p:Pl)(n:S12.M)(q:Pl)(w:World):Prop where
 mb:Blk w w0 (yX n q) 43
 rb:Blk w (w0.heap.size+1) zM9 43
 mi:MIs n q w
 aS:Ap n q w0.heap.size
 aR:Ap n q (w0.heap.size+1)
 np:NP w0.heap.size m p n q
 bl:Below w0 w0 w
theorem BS.new{m:S12.M}{p:Pl}{w:World}(h:MIs m p w):BS w m p m p ((w.alloc (.cells (yX m p).toArray 43)).alloc (.cells zM9.toArray 43)):=by
 have a:Below w w ((w.alloc (.cells (yX m p).toArray 43)).alloc (.cells zM9.toArray 43)):=((zJ _ _).alloc (zF _) _).alloc by1 _;refine⟨(Blk.new w _ _).alloc _,?_,h.step a,h.ap (zF _),h.ap (Nat.le_succ _),⟨.inl ⟨rfl,rfl⟩,.inl ⟨rfl,rfl⟩,.inl ⟨rfl,rfl⟩⟩,a⟩;have h:=Blk.new (w.alloc (.cells (yX m p).toArray 43)) zM9 43;rwa[zY]at h
theorem BS.step{b w w':World}{m:S12.M}{p q:Pl}{n:S12.M}(h:BS b m p n q w)(a:Below w w w'):BS b m p n q w':=⟨h.mb.step a,h.rb.step a,h.mi.step a,h.aS,h.aR,h.np,zA h.bl a⟩
theorem BS.put{f w:World}{m:S12.M}{p q:Pl}{n n':S12.M}(h:BS f m p n q w)(i:Nat)(v:Value)(e:yX n' q=(yX n q).set i v)(d:n'.heads=n.heads)(b:n'.bytes=n.bytes)(c:n'.ctrs=n.ctrs):BS f m p n' q (w.setCell ⟨f,i,none⟩ v):=by
 have a:=h.mi.setO h.aS i v;refine⟨by rw[e];exact h.mb.set i v,h.rb.other _ i v om,⟨by rw[d];exact a.rdh,by rw[b];exact a.rdb,by rw[c];exact a.rdc,by rw[b];exact a.byt,by rw[b];exact a.cb,by rw[d];exact a.lh,by rw[b];exact a.lb,by rw[c];exact a.lc⟩,?_,?_,?_,h.bl.setCell (p:=⟨f,i,none⟩) (zF _) v⟩
 ·unfold Ap;rw[d,b,c];exact h.aS
 ·unfold Ap;rw[d,b,c];exact h.aR
 ·unfold NP;rw[d,b,c];exact h.np
theorem BS.all{b w r i:World}{m:S12.M}{p q c:Pl}{n a:S12.M}(h:BS b m p n q w)(t:Below w w r)(z:MIs a c r)(l:NewPl w.heap.size q c)(f:a.heads.length=n.heads.length)(d:a.ctrs=n.ctrs)(A:Blk i b (yX a c) 43)(k:r.grownBy i (some b.heap.size)):BS b m p a c i:=by
 have j:=h.bl.size;have u:=h.aS.new h.mb.lt l f d;have s:=zA h.bl t;refine⟨A,(h.rb.step t).keptRow k (fun e=>by have:=zI e;omega),z.rowA u k,u,h.aR.new h.rb.lt l f d,?_,s.trans (yA k (zF _) s.size)⟩;obtain⟨v,a,x⟩:=l;obtain⟨m1,m2,y⟩:=h.np;refine⟨?_,.inr (fun g o e=>yD j (a g o e)),?_⟩
 ·rcases v with n|n
  ·rw[n,f];exact m1
  ·exact .inr (fun g o e=>yD j (n g o e))
 ·rcases x with n|n
  ·rw[n,d];exact y
  ·exact .inr (fun g o e=>yD j (n g o e))
theorem rbit12_ok(m:S12.M)(p:Pl)(b:Int)(w:World)(C:MIs m p w)(r:S12.bitE m b=0) :
 Calls Tryz.prog 46 #[MV m p,b] w fun e w'=>∃p',e = .returned (.tuple #[MV (S12.bitM m b) p',.int .i64 0])∧MIs (S12.bitM m b) p' w'∧NP w.heap.size m p (S12.bitM m b) p'∧Below w w w':=by
 have ab:S12.check m=0:=by
  cases h:decide (S12.check m=0)with
  | true=>exact zbE h
  | false=>unfold S12.bitE at r;rw[zQ (of_decide_eq_false h)]at r;exact r
 have O:=(S12.check_iff m).1 ab;have bM:b=0∨b=1:=by
  cases h:decide (0≤b∧b≤1)with
  | true=>have:=zbE h;omega
  | false=>unfold S12.bitE at r;rw[zG (by rw[ab];simp),zQ (of_decide_eq_false h)]at r;omega
 have a8:¬(128≤m.part∧65536≤m.bytes.length):=by
  unfold S12.bitE at r;rw[zG (by rw[ab];simp),zG om]at r;split at r
  ·cases r
  ·assumption
 have bp:=zC (O.bitM C.byt bM r);have G:=ziF m p;rw[ab]at G;have bU:m.bytes.length≤65536:=O.few;have bP:m.len=0∨(1≤m.len∧m.len≤255):=by
  rcases(S12.matched_iff m).1 O.mat with⟨h,_⟩|h
  ·exact .inl h
  ·exact .inr h.len
 obtain⟨v,ai,B,bo⟩:=zh4 (O.learn b) O.ctrs O a8;obtain⟨W1,ao⟩:=zvJ ((w.alloc (.cells (yX m p).toArray 43)).alloc (.cells zM9.toArray 43));have S1:BS w m p m p W1:=by rw[←ao];exact BS.new C
 obtain⟨aw,bT,HM,HM⟩:=zh4 (G W1 S1.mi) C.byt C C;obtain⟨HM,HM,HM⟩:=zh3 C C C;unfold MV at aw;unfold zM9 at ao;have k1:=S1.mb;have bn:=zC S1;obtain⟨V,av⟩:=zvJ (S12.bitM m b);rw[av]at bp⊢;have bA:=zC av;clear G ab O C r a8 S1 av;show Calls Tryz.prog 46 #[.agg (yX m p).toArray,b] w _;go_enter Tryz.func46,Tryz.ntmps46;go_wp2_with (first
  | (rw[ao])
  | (refine ld43 (.tmp 2) k1 ?_)
  | fail)
 refine aw.out.mono ?_;rintro e f ⟨rfl,aZ⟩;have d:=zC (bn.out.step aZ);clear bn aw ao aZ k1
 go_upto_region 4 with fail
 go_cut [20] (fun s u=>s = .bool false∧f=u)
 case first=>
  by_cases h:b=0
  ·have e0:(b != 0)=false:=by simp[h]
   clear h;go_wp2
   go_meet
   case rel=>exact⟨rfl,rfl⟩
  ·have e0:(b != 0)=true:=by simp[h]
   have e1:(b != 1)=false:=by simp;omega
   clear h;go_wp2
   go_meet
   case rel=>exact⟨rfl,rfl⟩
 case rest=>
  obtain⟨rfl,rfl⟩:=hcut;have x6:f.cell? ⟨w,6,none⟩=some (.int .i64 m.part):=d.out.mb.cell 6;have x3:f.cell? ⟨w,3,none⟩=some (.slice p.ab m.bytes.length p.cb):=d.out.mb.cell 3;have x5:f.cell? ⟨w,5,none⟩=some (.int .i64 m.len):=d.out.mb.cell 5
  go_upto_region 6 with fail
  go_cut [30] (fun s u=>s = .bool false∧f=u)
  case first=>
   by_cases h:128≤m.part
   ·have dl:((m.bytes.length:Int)==65536)=false:=by have:=bo.out;simp;omega
    go_wp2
    go_meet
    case rel=>exact⟨rfl,rfl⟩
   ·go_wp2
    go_meet
    case rel=>exact⟨rfl,rfl⟩
  case rest=>
   obtain⟨rfl,rfl⟩:=hcut
   go_upto_if 34 with fail
   go_cut [] (fun u=>∃q,Hid (BS w m p (S12.learn m b) q u))
   case first=>
    rcases bP with h0|h1
    ·have aa:S12.learn m b=m:=by unfold S12.learn;rw[zQ h0]
     have bR:¬0<m.len:=by omega
     have bB:Hid (BS w m p (S12.learn m b) p f):=by rw[aa];exact d
     clear aa h0;go_wp2
     go_meet
     case rel=>exact⟨p,bB⟩
    ·have bS:0<m.len:=by omega
     obtain⟨k,hk⟩:∃k:Nat,min m.len.toNat 15=k:=⟨_,rfl⟩;have bZ:min m.len 15=(k:Int):=by omega
     obtain⟨cp,X⟩:=zvJ (m.ctrs.getD k (0,0));have an:k<m.ctrs.length:=by have:=ai.out;omega
     have aX:S08.check cp.1 cp.2 255=0:=B.out.ctr cp (by rw[←X,S12.getD_in _ _ an];exact yR an);obtain⟨R,hR⟩:∃R:Int,(if b=m.bit then 1 else 0)=R:=⟨_,rfl⟩;have aF:R=0∨R=1:=by rw[←hR];split<;>omega
     have HU:=rupd12_ok aX aF;obtain⟨p0,p1⟩:=cp;simp only at HU;obtain⟨z,y,U,ap⟩:=zz2 (S08.step p0 p1 R) (min (p1+1) 255);simp only[U,ap]at HU
     have bs:R=1→S12.learn m b = {m with ctrs:=m.ctrs.set k (z,y)}:=fun e=>by
      unfold S12.learn;rw[zG om,hk,X];by_cases l:b=m.bit
      ·rw[zQ l];rw[e]at U;simp only[U,ap]
      ·rw[zG l]at hR;omega
     have a5:R=0→S12.learn m b = {m with ctrs:=m.ctrs.set k (z,y),at_:=0,len:=0}:=fun e=>by
      unfold S12.learn;rw[zG om,hk,X];by_cases l:b=m.bit
      ·rw[zQ l]at hR;omega
      ·rw[zG l];rw[e]at U;simp only[U,ap]
     obtain⟨bK,bH,bN,HR⟩:=zh4 HU bs a5 hR;obtain⟨aS,H⟩:=zh2 X an;have bY:k<16:=by omega
     have bu:=zC aF;clear ap U X an aX hk h1 bs a5 hR HU aF;have x7:f.cell? ⟨w,7,none⟩=some (.int .i64 m.bit):=d.out.mb.cell 7
     go_upto_if 38 with fail
     go_cut [7] (fun s u=>s = .int .i64 R∧f=u)
     case first=>
      by_cases l:b=m.bit
      ·have eb:(b==m.bit)=true:=by simp[l]
       have aN:=zC (show(1:Int)=R by rw[←HR.out,zQ l]);clear l;go_wp2
       go_meet
       case rel=>exact⟨by rw[aN.out],rfl⟩
      ·have eb:(b==m.bit)=false:=by simp[l]
       have aN:=zC (show(0:Int)=R by rw[←HR.out,zG l]);clear l;go_wp2
       go_meet
       case rel=>exact⟨by rw[aN.out],rfl⟩
     case rest=>
      obtain⟨rfl,rfl⟩:=hcut;have bJ:=zC ((d.out.mi.rdc).step ((zJ f.heap.size f).alloc (zF _) (Obj.cells #[] 143)));have Q:=d.out.mb;unfold yX at Q;have R1:=d.out.rb;unfold zM9 at R1;obtain⟨bi,bq,aT⟩:=zh3 Q R1 d.out.bl;have x8:=Q.cell 8;simp only[zvH]at x8;have l1:=R1.lt;have bW:=Q.lt;have f8:=Q.free 8;clear Q R1 x7 x6 x3;go_wp2_with (first
       | (at_builtin
          refine yQ _ _ 37 143 2 16 _ f.heap.size zmV rfl rfl _ 0 [] rfl (World.ownsRow_made f #[] 0 (zF _) by2 rfl) p.ac m.ctrs.length p.cc (Cts m.ctrs) rfl (by rw[yT]) bJ.out (Cts_one _) (by have:=ai.out;unfold maxLen;omega) (by have:=ai.out;omega) by1 ?_;intro a2 x w2 aG aR;have aL:Below f f w2:=Below.grown zo aR by1 (fun k e=>by cases e;exact zF _);simp only[yE,lna]at aG⊢;obtain⟨a,rfl,bQ,bj⟩:=Own.of_owns aG (by have:=ai.out;omega) by2;clear aG aR;have M2:=bi.out.step aL;have R2:=bq.out.step aL;have bk:=zA aT.out aL;have dS:¬a=w.heap.size:=by omega
          have aV:¬w.heap.size=a:=by omega
          have dR:¬w.heap.size+1=a:=by omega
          have v8:=M2.cell 8;have e8:=M2.free 8;have M3:=M2.set 8 (.slice (some ⟨a,0,none⟩) m.ctrs.length x);have R3:=R2.other w.heap.size 8 (.slice (some ⟨a,0,none⟩) m.ctrs.length x) om;have au:=bk.setCell (p:=⟨w,8,none⟩) (zF _) (.slice (some ⟨a,0,none⟩) m.ctrs.length x);have C3:=bj.other w.heap.size 8 (.slice (some ⟨a,0,none⟩) m.ctrs.length x) dS;simp only[sC0,sCs]at M3;obtain⟨w3,aQ⟩:=zvJ (w2.setCell ⟨w,8,none⟩ (.slice (some ⟨a,0,none⟩) m.ctrs.length x));rw[aQ]at M3 R3 au C3
          have aA:zdM [(⟨w,8,none⟩,.slice (some ⟨a,0,none⟩) m.ctrs.length x),(⟨a,k*2,none⟩,p0),(⟨a,k*2+1,none⟩,p1)] w3:=
           ⟨M3.cell 8,by rw[C3.cell (by have:=H.out;rw[yT];omega),(zeD H.out).1,←S12.getD_in _ (0,0) H.out,aS.out],by rw[C3.cell (by have:=H.out;rw[yT];omega),(zeD H.out).2,←S12.getD_in _ (0,0) H.out,aS.out],zT⟩
          clear M2 R2 bk bj)
       | fail)
      (try clear v8);(try clear e8);(try clear aQ);clear f8 x8 x5;have b3:=H.out;refine zbF 14 15 0 [(.p,[true]),(.r,[false,true]),(.p,[false,false,true,true]),(.r,[false,false,false,false,true]),(.p,[false,false,false,false,false,true,true]),(.r,[false,false,false,false,false,false,false,true]),(.p,[false,false,false,false,false,false,false,false,true]),(.e,[false,false,false,false,false,false,false,false,false,true]),(.p,[false,false,false,false,false,false,false,false,false,false,true,true,true,true]),(.l,[false,false,false,false,false,false,false,false,false,false,false,false,false,false,true])] _ _ (zdM [(⟨w,8,none⟩,.slice (some ⟨a,0,none⟩) m.ctrs.length x),(⟨a,k*2,none⟩,p0),(⟨a,k*2+1,none⟩,p1)]) zk (zU 15 _).symm zk zk zk zk (aA) (fun Y Q4 F4 hY hF=> ?_);simp only[zeJ,lfc,lfn,ltc,ltz,ldc,ldz,zdY,zcV,zfO,lmc,lmn,lca,lna,lan];repeat first|refine muP ?_|refine muR ?_
      refine muC ?_;refine(bK.out _).mono ?_;rintro e w4 ⟨rfl,bD⟩;have ac:=zA (yW w3.heap.size w3) bD;have ah:=Cells.step ac aA;refine⟨_,rfl,ah,?_⟩;simp only[zvF];repeat first|refine muP ?_|refine muR ?_
      have M4:=M3.step ac;have R4:=R3.step ac;have C4:=C3.step ac;have aU:=zA au ac;have y5:w4.cell? ⟨a,k*2,none⟩=some (.int .i64 p0):=ah.2.1;have y6:w4.cell? ⟨a,k*2+1,none⟩=some (.int .i64 p1):=ah.2.2.1;have g5:=C4.free (k*2);have g6:=C4.free (k*2+1);refine muL ?_;refine zcG (hF.out _ _ (fun K hK=> ?_));clear hF hY;have L:=(M4.other a (k*2) (.int .i64 z) aV).other a (k*2+1) (.int .i64 y) aV;have R5:=(R4.other a (k*2) (.int .i64 z) dR).other a (k*2+1) (.int .i64 y) dR;have am:=(aU.setCell (p:=⟨a,k*2,none⟩) (show w.heap.size≤a by omega) (.int .i64 z)).setCell (p:=⟨a,k*2+1,none⟩) (show w.heap.size≤a by omega) (.int .i64 y);have C5:=(C4.set (i:=k*2) (by rw[yT];omega) (.int .i64 z)).set (i:=k*2+1) (by rw[yH,yT];omega) (.int .i64 y);rw[←zrK]at C5;go_wp2_with fail;refine mok hK ?_;clear hK aA ah y5 y6 g5 g6 M4 R4 C4 aU M3 R3 C3 au;obtain⟨w5,bh⟩:=zvJ ((w4.setCell ⟨a,k*2,none⟩ (.int .i64 z)).setCell ⟨a,k*2+1,none⟩ (.int .i64 y));rw[bh]at L R5 am C5⊢;clear bh;have D:=HM.out.step am
      have S5:BS w m p {m with ctrs:=m.ctrs.set k (z,y)} ⟨p.ah,p.ch,p.ab,p.cb,some ⟨a,0,none⟩,x⟩ w5:=
       ⟨by unfold yX;simp only[yH];exact L,R5,⟨D.rdh,D.rdb,C5.rd,D.byt,D.cb,D.lh,D.lb,by simp only[yH];exact D.lc⟩,
         ⟨d.out.aS.1,d.out.aS.2.1,fun g o e _=>by cases e;omega⟩,⟨d.out.aR.1,d.out.aR.2.1,fun g o e _=>by cases e;omega⟩,⟨.inl ⟨rfl,rfl⟩,.inl ⟨rfl,rfl⟩,.inr (fun g o e=>by cases e;omega)⟩,am⟩
      have y5:=L.cell 5;have y4:=(L.set 5 (.int .i64 0)).cell 4;simp only[lgz,lgs,sC0,sCs]at y5 y4;have g5:=L.free 5;have g4:=(L.set 5 (.int .i64 0)).free 4;have aY:=zC S5;clear L R5 C5 am S5 D bi bq aT;by_cases ae:R=0
      ·have E:(R==0)=true:=by simp[ae]
       have ad:Hid (BS w m p (S12.learn m b) ⟨p.ah,p.ch,p.ab,p.cb,some ⟨a,0,none⟩,x⟩ ((w5.setCell ⟨w,5,none⟩ (.int .i64 0)).setCell ⟨w,4,none⟩ (.int .i64 0))):=by
        rw[bN.out ae];exact zC ((aY.out.put 5 (.int .i64 0) (n':={m with ctrs:=m.ctrs.set k (z,y),len:=0}) rfl rfl rfl rfl).put 4 (.int .i64 0) (n':={m with ctrs:=m.ctrs.set k (z,y),at_:=0,len:=0}) rfl rfl rfl rfl)
       clear ae;go_wp2
       go_meet
       case rel=>exact⟨_,ad⟩
      ·have E:(R==0)=false:=by simp[ae]
       have ad:Hid (BS w m p (S12.learn m b) ⟨p.ah,p.ch,p.ab,p.cb,some ⟨a,0,none⟩,x⟩ w5):=by
        rw[bH.out (by have:=bu.out;omega)];exact aY
       clear ae;go_wp2
       go_meet
       case rel=>exact⟨_,ad⟩
   case rest=>
    obtain⟨q,c⟩:=hcut;have ag:=bA.out;unfold S12.bitM at ag;obtain⟨n,hn⟩:=zvJ (S12.learn m b);rw[hn]at c v ag;have bX:1≤n.part∧n.part≤255:=by rw[v.out.part];exact B.out.part
    obtain⟨P,hP⟩:=zvJ (2*n.part+b);rw[hP]at ag;have b0:2≤P∧P≤511:=by omega
    have S6:=c.out.put 6 (.int .i64 P) (n':={n with part:=P}) rfl rfl rfl rfl;have bz:wc.cell? ⟨w,6,none⟩=some (.int .i64 n.part):=c.out.mb.cell 6;have f6:=c.out.mb.free 6;obtain⟨w6,aB⟩:=zvJ (wc.setCell ⟨w,6,none⟩ (.int .i64 P));rw[aB]at S6;have z6:w6.cell? ⟨w,6,none⟩=some (.int .i64 P):=S6.mb.cell 6;obtain⟨S,bx,Hn⟩:=zh3 S6 ag hn;clear S6 c ag hn x6 x3 x5 d
    go_upto_if 73 with(first|(rw[aB])|fail)
    go_cut [] (fun u=>∃q',Hid (BS w m p (S12.take n P) q' u))
    case first=>
     by_cases bd:255<P
     ·obtain⟨I,aP⟩:∃I:Nat,P-256=I:=⟨(P-256).toNat,by omega⟩;have bw:I<256:=by omega
      have a9:P=256+(I:Int):=by omega
      have az:(0≤n.len∧n.len≤255)∧(0≤n.at_∧n.at_≤65536):=by
       rcases v.out.alt with⟨a1,a2⟩|⟨a1,a2,a3,a4⟩
       ·omega
       ·have a7:=B.out.Mat a1;have c1:=a7.len;have c2:=a7.at_;have c3:=B.out.few;omega
      have ht:S12.take n P=S12.search (S12.extend {n with bytes:=n.bytes ++ [(I:Int)],part:=1}):=by unfold S12.take;rw[zQ bd,aP]
      have G:=zuD {n with part:=P} q w6 I (by simp only;rw[v.out.bits];exact B.out.bits) (by simp only;rw[v.out.least];exact B.out.least) (by simp only;rw[v.out.heads,v.out.bits];exact B.out.heads) (by simp only;rw[v.out.heads,v.out.bytes];exact B.out.head) (by simp only;rw[v.out.bytes];have:=v.out.part;have:=bo.out;have:=B.out.few;omega) a9 bw az.1 az.2 S.out.mi;obtain⟨t8,af⟩:=zvJ (S12.search (S12.extend {n with bytes:=n.bytes ++ [(I:Int)],part:=1}));simp only[af]at G;obtain⟨HT,HC⟩:=zh2 (ht.trans af) G;have bf:t8.heads.length=n.heads.length:=by rw[←af];exact S12.se_heads _
      have bt:t8.ctrs=n.ctrs:=by rw[←af];exact S12.se_ctrs _
      have a6:=zC (zZ bf bt);have k6:=S.out.mb;unfold MV at HC;clear G az ht af aP a9 bf bt;go_wp2_with (first
       | (refine ld43 (.tmp 2) k6 ?_)
       | fail)
      refine HC.out.mono ?_;rintro e w8 ⟨q8,rfl,bb,be,aD⟩;have HX:=zC (zZ bb (zZ be aD));have k8:=S.out.mb.step aD;clear bb be aD HC k6;go_wp2_with (first
       | (refine st43 (.tmp 2) (.tmp 75) (yX t8 q8) k8 ?_ rfl rfl (by simp[yX,Value.oneCell']);intro w9 k9 g9 s9)
       | fail)
      go_meet
      case rel=>exact⟨q8,by rw[HT.out];exact zC (S.out.all HX.out.2.2 HX.out.1 HX.out.2.1 a6.out.1 a6.out.2 k9 g9)⟩
     ·have ad:Hid (BS w m p (S12.take n P) q w6):=by unfold S12.take;rw[zG bd];exact S
      go_wp2
      go_meet
      case rel=>exact⟨q,ad⟩
    case rest=>
     obtain⟨N,c⟩:=hcut;have aJ:=bx.out;obtain⟨t,ht⟩:=zvJ (S12.take n P);rw[ht]at c aJ;have aj:=c.out.put 7 (.int .i64 2) (n':={t with bit:=2}) rfl rfl rfl rfl;have bc:wc.cell? ⟨w,7,none⟩=some (.int .i64 t.bit):=c.out.mb.cell 7;have f7:=c.out.mb.free 7;obtain⟨T,ak⟩:=zvJ (wc.setCell ⟨w,7,none⟩ (.int .i64 2));rw[ak]at aj;have z5:T.cell? ⟨w,5,none⟩=some (.int .i64 t.len):=aj.mb.cell 5;obtain⟨A,ar⟩:=zh2 aj aJ;clear aj aJ ht c S z6 aB bz f6
     go_upto_if 79 with(first|(rw[ak])|fail)
     go_cut [] (fun u=>∃q',Hid (BS w m p V q' u))
     case first=>
      by_cases aa:0<t.len
      ·have E:V = {t with bit:=S12.expI (t.bytes.getD t.at_.toNat 0) t.part}:=by rw[←ar.out];unfold S12.expect;rw[zQ aa]
       have aO:S12.WF {t with bit:=S12.expI (t.bytes.getD t.at_.toNat 0) t.part}:=by rw[←E];exact bp.out
       have aE:=aO.Mat (show t.len≠0 by omega);have bL:t.len≤t.at_∧t.at_≤(t.bytes.length:Int)-1:=aE.at_;have bI:1≤t.len∧t.len≤255:=aE.len;have bG:1≤t.part∧t.part≤255:=aO.part;obtain⟨J,aK⟩:∃J:Nat,t.part=J:=⟨t.part.toNat,by omega⟩;obtain⟨j,hj⟩:∃j:Nat,t.at_=j:=⟨t.at_.toNat,by omega⟩;have aI:S12.Byt t.bytes:=A.out.mi.byt;have bl:0≤t.bytes.getD j 0:=aI.get j;have bm:(t.bytes.getD j 0).toNat<256:=aI.at j;obtain⟨F,al⟩:∃F:Nat,t.bytes.getD j 0=F:=⟨(t.bytes.getD j 0).toNat,(zgO bl).symm⟩;have bE:F<256:=by rw[al]at bm;omega
       obtain⟨M,Z,eB,br⟩:=ziY (show Rd T N.ab (Bts t.bytes)from A.out.mi.rdb) (i:=j) om;have ax:=br j om;rw[al]at ax;have b2:j<t.bytes.length:=by omega
       have bO:¬M=w.heap.size:=A.out.aS.2.1 M Z eB (fun h=>by have h2:(Bts t.bytes).length=0:=(by rw[h];rfl);rw[zaC]at h2;omega);have bV:¬w.heap.size=M:=fun h=>bO h.symm
       have aC:zdM [(⟨w,3,none⟩,.slice (some ⟨M,Z,none⟩) t.bytes.length N.cb),(⟨w,4,none⟩,j),(⟨w,6,none⟩,J),(⟨M,Z+j,none⟩,.int .u8 (F:Int))] T:=
        ⟨by rw[←eB];exact A.out.mb.cell 3,by rw[←hj];exact A.out.mb.cell 4,by rw[←aK];exact A.out.mb.cell 6,ax,zT⟩
       have ay:=zC fun W=>ziA F J bE om om W;obtain⟨bv,aM⟩:=zvJ (S12.optN (S12.exp F (J:Int)));have ba:S12.expI (t.bytes.getD t.at_.toNat 0) t.part=bv:=by rw[S12.expI_eq,hj,Int.toNat_natCast,al,Int.toNat_natCast,aK,aM]
       rw[aM]at ay;rw[ba]at E;have bF:=zC E;obtain⟨b1,aW⟩:=zvJ ((S12.exp F (J:Int)).isSome);rw[aW]at ay;clear aE bL bI aO aM ba al br ax E aW bG bl bm hj aK eB aI bc f7 ak z5;go_wp2_with fail;refine zbF 13 14 0 [(.p,[true]),(.r,[false,true]),(.p,[false,false,true]),(.r,[false,false,false,true]),(.p,[false,false,false,false,true]),(.r,[false,false,false,false,false,true]),(.p,[false,false,false,false,false,false,true]),(.r,[false,false,false,false,false,false,false,true]),(.e,[false,false,false,false,false,false,false,false,true]),(.p,[false,false,false,false,false,false,false,false,false,true,true,true,true]),(.l,[false,false,false,false,false,false,false,false,false,false,false,false,false,true])] _ _ (zdM [(⟨w,3,none⟩,.slice (some ⟨M,Z,none⟩) t.bytes.length N.cb),(⟨w,4,none⟩,j),(⟨w,6,none⟩,J),(⟨M,Z+j,none⟩,.int .u8 (F:Int))]) zk (zU 14 _).symm zk zk zk zk (aC) (fun Y Q4 F4 hY hF=> ?_);simp only[zeJ,lfc,lfn,ltc,ltz,ldc,ldz,zdY,zcV,zfO,lmc,lmn,lca,lna,lan];repeat first|refine muP ?_|refine muR ?_
       refine muC ?_;refine(ay.out _).mono ?_;rintro e a0 ⟨rfl,bC⟩;have bg:=zA (yW T.heap.size T) bC;refine⟨_,rfl,Cells.step bg aC,?_⟩;simp only[zvF];repeat first|refine muP ?_|refine muR ?_
       have aq:=A.out.step bg;have y7:a0.cell? ⟨w,7,none⟩=some (.int .i64 2):=aq.mb.cell 7;have f7:=aq.mb.free 7;refine muL ?_;refine zcG (hF.out _ _ (fun K hK=> ?_));clear hF hY;have aH:Hid (BS w m p V N (a0.setCell ⟨w,7,none⟩ (.int .i64 bv))):=by
        rw[bF.out];exact zC (aq.put 7 (.int .i64 bv) (n':={t with bit:=bv}) rfl rfl rfl rfl)
       clear aq;go_wp2_with fail;refine mok hK ?_;clear hK aC;go_wp2_with fail
       go_meet
       case rel=>exact⟨N,aH⟩
      ·have aH:Hid (BS w m p V N T):=by
        have E : {t with bit:=2}=V:=by rw[←ar.out];unfold S12.expect;rw[zG aa]
        rw[←E];exact A
       go_wp2
       go_meet
       case rel=>exact⟨N,aH⟩
     case rest=>
      obtain⟨q3,c⟩:=hcut;have kM:=c.out.mb;have rM:=c.out.rb;have HB:=zC c.out;clear c A ar bc f7 ak z5;go_wp2_with (first
       | (refine ld43 (.tmp 2) kM ?_)
       | (refine st43 (.tmp 4) (.tmp 93) (yX V q3) rM ?_ rfl rfl (by simp[yX,Value.oneCell']);intro wR ER gR sR)
       | fail)
      have hL:=lv43 ER;refine rL2 hL ?_;exact⟨q3,rfl,HB.out.mi.rowA HB.out.aR gR,HB.out.np,HB.out.bl.trans (yA gR (Nat.le_succ _) HB.out.bl.size)⟩
