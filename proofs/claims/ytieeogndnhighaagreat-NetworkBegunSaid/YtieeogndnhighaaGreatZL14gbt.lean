/- A part of the proof of L14g. No condition. -/
import Derived.Test.YtieeogndnhighaaGreatZL14gbp
import Derived.Test.YtieeogndnhighaaGreatZL14gbs
set_option linter.all false
set_option maxRecDepth 100000
set_option maxHeartbeats 20000000
namespace Go.Proofs.YtieeogndnhighaaGreat
open Go.RowKit
theorem PIs.ofH{l:List (Int×Int)}{a aT:Option Addr}{c cT:Nat}{B:Int}{XX:List Int}{w:World}(hr:Rd w a (Cts l))(ht:Tab XX aT cT w):PIs {S14.P0 with ctrs:=l,sb:=B,sd:=XX} {zcX with a1:=a,c1:=c,a2:=aT,c2:=cT} w:=
 ⟨hr,ht,(PIs.zero w).mch,(PIs.zero w).mix,(PIs.zero w).apm⟩
def S14.freshH(bits:Int):S14.P:={S14.P0 with ctrs:=List.replicate 215 (32768,0),sb:=S10.newB bits,sd:=S10.newX bits}
theorem zpK(c:S14.C)(w:World) :
 Calls Tryz.prog 213 #[CV c] w fun e w'=>∃y,e = .returned (PV (S14.freshH c.bits) y)∧PRob 0 w.heap.size (S14.freshH c.bits) y w'∧Below w.heap.size w w':=by
 unfold S14.freshH;have HN:=zD fun W=>new10_any c.bits W;have Hok:=zD (OK8.newX c.bits);have HC:=zD fun W=>zeX W;have HT:=zD fun W=>zoC 215 (by omega) (by omega) W;obtain⟨XX,hXX⟩:∃x,S10.newX c.bits=x:=⟨_,rfl⟩;obtain⟨B,hB⟩:∃x,S10.newB c.bits=x:=⟨_,rfl⟩;obtain⟨E,hE⟩:∃x,S10.newE c.bits=x:=⟨_,rfl⟩;obtain⟨ws,hws⟩:∃l,List.replicate 215 ((32768:Int),(0:Int))=l:=⟨_,rfl⟩;have hwl:ws.length=215:=by rw[←hws,zbA]
 rw[hXX,hB,hE]at HN;rw[hXX]at Hok;rw[hws]at HT;rw[hXX,hB,hws];obtain⟨W1,hW1⟩:∃W1,(w.alloc (.cells (yA c).toArray 117)).alloc (.cells zP 83)=W1:=⟨_,rfl⟩;have k1:Blk W1 w.heap.size (yA c) 117:=by rw[←hW1];exact(Blk.new w _ _).alloc _
 have k2:Blk W1 (w.heap.size+1) (yN S14.P0 zcX) 83:=by
  rw[←hW1];have h:=zdL (w.alloc (.cells (yA c).toArray 117));rwa[zV]at h
 have B1:Below w.heap.size w W1:=by rw[←hW1];exact((zF _ _).alloc (zE _) _).alloc (by simp) _
 have hW1s:W1.heap.size=w.heap.size+2:=by rw[←hW1];simp
 obtain⟨kind,bits,limit,rate,first,second⟩:=c;unfold CV;unfold yA at *;simp only at HN hW1 k1⊢;have x1:=k1.cell 1;simp only[ztB]at x1;have Hwl:=zD hwl;have HW1s:=zD hW1s;clear hXX hB hE hws hwl hW1s k1;go_enter Tryz.func213,Tryz.ntmps213;go_wp2_with (first
  | (refine zaB 83 zP zcH (by rfl) (by rfl) ?_;rw[hW1])
  | fail)
 refine(HN.out _).mono ?_;rintro e w3 ⟨V,rfl,TOv,hb3⟩;have B3:=zA B1 hb3;have k2:=k2.step hb3;obtain⟨aT,cT,rfl,hT,hF8⟩:=TOv.open Hok.out;unfold zhB;obtain⟨W4,hW4⟩:∃W,w3.alloc (.cells #[.int .i64 0,.slice none 0 0] 75)=W:=⟨_,rfl⟩;obtain⟨b4,hb4⟩:∃b,w3.heap.size=b:=⟨_,rfl⟩;have kA:Blk W4 b4 [.int .i64 0,.slice none 0 0] 75:=by rw[←hW4,←hb4];exact Blk.new w3 _ _
 have ba4:Below w3.heap.size w3 W4:=by rw[←hW4];exact(zF _ _).alloc (zE _) _
 have hT4:=hT.step ba4
 have hTb:∀g o,XX≠ []→aT=some ⟨g,o,none⟩→g<b4:=fun g o hx e=>by
  obtain⟨g',o',e',hr⟩:=hT.rd (fun h=>hx (by cases XX with
   | nil=>rfl
   | cons _ _=>cases h))
  rw[e]at e';cases e';have hv:∃v,(Bts XX)[0]? = some v:=by cases XX with
   | nil=>exact absurd rfl hx
   | cons x r=>exact⟨_,rfl⟩
  obtain⟨v,hv⟩:=hv;rw[←hb4];exact zL (hr 0 v hv)
 have k2:=k2.step ba4;have B4:=zA B3 ba4;have zb:w.heap.size+1<b4:=by have:=hb3.size;have:=HW1s.out;omega
 have HT4:=zD hT4;have HF8:=zD (hF8.mono (by have:=HW1s.out;omega):Fr aT (w.heap.size+2));have HTb:=zD hTb;clear TOv hT hF8 hb3 B3 ba4 x1 hT4 hTb;go_wp2_with (first
  | (rw[hW4,hb4])
  | (rw[hW4])
  | (refine yC 75 (.tmp 3) (.tmp 10) (by rfl) (by rfl) b4 (by rfl) [.int .i64 B,.slice aT XX.length cT] (by rfl) _ 75 kA zpG rfl (by simp[Value.oneCell']) ?_;intro s5 E5 g5 z5;clear z5))
 have k25:=k2.keptRow g5 (by intro e;have:=zJ e;omega)
 have hT5:Tab XX aT cT s5:=⟨HT4.out.ok,HT4.out.cap,by
  by_cases hx:XX = []
  ·subst hx;exact fun h=>absurd rfl h
  ·exact HT4.out.rd.keptRow g5 (fun g o e=>by have:=HTb.out g o hx e;omega)⟩
 have B5:=B4.trans (yD g5 (by omega) B4.size);have HT5:=zD hT5;have hCS:Cells s5 [(⟨b4,0,none⟩,.int .i64 B),(⟨b4,1,none⟩,.slice aT XX.length cT)]:=⟨E5.cell 0,E5.cell 1,yK⟩;clear hT5 HT4 B4 k2 g5 kA;refine ztC 4 1 [(U,[zsY,zsY,U]),(zsY,[U]),(zsY,[zsY,U]),(U,[zsY,zsY,zsY,U])] (fun K=>Below s5.heap.size s5 K∧Cells K [(⟨b4,0,none⟩,.int .i64 B),(⟨b4,1,none⟩,.slice aT XX.length cT)]) (by kernel_rfl) (⟨(zF _ _).drew,hCS⟩) (fun Y Q4 F4 hY hF=> ?_);simp only[ztA]
 repeat
  apply zK (by rw[hY];rfl)
  ·intro w2 hS2;(try simp only[Keeps,Cells]at hS2);go_simp;with_reducible rfl
  simp only[zsZ]
 have hbv0:Below s5.heap.size s5 s5.drew:=(zF _ _).drew;apply zU (by rw[hY];rfl)
 ·go_simp;with_reducible exact⟨rfl,rfl⟩
 refine(HC.out _).mono ?_;rintro e v1 ⟨rfl,hbv10⟩;have hbv1:=zA hbv0 hbv10;refine⟨_,rfl,⟨hbv1,Cells.step hbv1 hCS⟩,?_⟩;simp only[zsZ];apply zU (by rw[hY];rfl)
 ·go_simp;with_reducible exact⟨rfl,rfl⟩
 refine(HT.out _).mono ?_;rintro e v2 ⟨a,cap,rfl,hfar,hrd,hbv20⟩;have hbv2:=zA hbv1 hbv20;refine⟨_,rfl,⟨hbv2,Cells.step hbv2 hCS⟩,?_⟩;simp only[zsZ]
 repeat
  apply zK (by rw[hY];rfl)
  ·intro w2 hS2;(try simp only[Keeps,Cells]at hS2);go_simp;with_reducible rfl
  simp only[zsZ]
 refine yL (hF.out _ _ (fun K hK=> ?_));clear hF hY;have HK:=zD hK;clear hK;have k28:=k25.step hbv2;have BS:=zA B5 hbv2;have hfar2:∀g o,a=some ⟨g,o,none⟩→w.heap.size+2≤g:=fun g o e=>by have:=hfar g o e;have:=hbv1.size;have:=B5.size;have:=E5.lt;omega
 have Hrd:=zD hrd;have Hfar:=zD hfar2;have HT8:=zD (HT5.out.step hbv2);have hone:∀v∈yN {S14.P0 with ctrs:=ws,sb:=B,sd:=XX} {zcX with a1:=a,c1:=cap,a2:=aT,c2:=cT},v.oneCell'=true:=zaJ _ _;have hPV:yN {S14.P0 with ctrs:=ws,sb:=B,sd:=XX} {zcX with a1:=a,c1:=cap,a2:=aT,c2:=cT} = [.slice a 215 cap,.int .i64 B,.slice aT XX.length cT,.int .i64 0,.int .i64 0,.int .i64 0,.slice none 0 0,.slice none 0 0,.int .i64 0,.int .i64 0,.int .i64 0,.int .i64 0,.slice none 0 0,.int .i64 0,.slice none 0 0,.slice none 0 0]:=by
  unfold yN;simp only[Hwl.out];rfl
 rw[hPV]at hone;clear hrd hfar hfar2 hbv1 hbv2 hbv10 hbv20 hbv0 hCS;simp only[ldc,ldz];refine(yC 83 (.tmp 2) (.tmp 15) (by rfl) (by rfl) (w.heap.size+1) (by rfl) [.slice a 215 cap,.int .i64 B,.slice aT XX.length cT,.int .i64 0,.int .i64 0,.int .i64 0,.slice none 0 0,.slice none 0 0,.int .i64 0,.int .i64 0,.int .i64 0,.int .i64 0,.slice none 0 0,.int .i64 0,.slice none 0 0,.slice none 0 0] (by rfl) _ 83 k28 (info_P.trans rfl) rfl hone ?_);intro wL EL gL sL;go_wp2_with fail;refine OnlyK.mk (HK.out _ _ ?_);go_wp2_with fail;have hL:=run_loadVar_mid wL _ 0 _ _ _ EL.cells Tryz.underlying83 rfl (info_P.trans rfl);refine bodyPost_ret (v:=.agg #[.slice a 215 cap,.int .i64 B,.slice aT XX.length cT,.int .i64 0,.int .i64 0,.int .i64 0,.slice none 0 0,.slice none 0 0,.int .i64 0,.int .i64 0,.int .i64 0,.int .i64 0,.slice none 0 0,.int .i64 0,.slice none 0 0,.slice none 0 0]) ?_ rfl ?_
 ·exact zbH (show Tryz.f213.results = #[.cell 2 83]from rfl) (p:=⟨w.heap.size+1,0,none⟩) rfl hL
 ·refine⟨{zcX with a1:=a,c1:=cap,a2:=aT,c2:=cT},?_,fun w' hk=> ?_,BS.trans (yD gL (by omega) BS.size)⟩
  ·unfold PV;rw[hPV]
  ·have hX:KepX (fun k=>k<w.heap.size+2) _ w':=(KepX.row gL (fun b e=>.inl (by show b<_;have:=zJ e;omega))).trans (hk.toX14.mono0 (by omega));exact PIs.ofH (Hrd.out.kepX hX (fun g o e=>by have:=Hfar.out g o e;show¬g<_;omega)) (HT8.out.kepX hX (fun g o e=>by have:=HF8.out g o e;show¬g<_;omega))
def S14.seen(N:S14.N)(k:Nat)(c:S14.C):List Int:=((S14.outs (S14.outA N) k).drop c.first.toNat).take (c.second.toNat+1-c.first.toNat)
def S14.st(N:S14.N)(p:S14.P):Nat:=(S10.getN p.sb p.sd p.slot (S14.node N.part.toNat:Nat)).toNat
def S14.learnP(N:S14.N)(bit:Int)(k:Nat)(c:S14.C)(p:S14.P):S14.P:=
 if c.kind=1 then {p with ctrs:=S14.upd p.ctrs (S14.at_ N k c) bit c.limit}
 else if c.kind=2 then {p with ctrs:=S14.upd p.ctrs (S14.st N p) bit c.limit,sb:=S10.setB p.sb p.sd p.slot (S14.node N.part.toNat:Nat) (S09.nextS (S14.st N p) bit),sd:=S10.setX p.sb p.sd p.slot (S14.node N.part.toNat:Nat) (S09.nextS (S14.st N p) bit)}
 else if c.kind=3 then {p with m:=S12.bitR p.m bit}
 else if c.kind=5 then {p with mi:=p.mi,mw:=S13.learnL p.mw (S14.at_ N k c) (S14.seen N k c) bit c.rate}
 else if c.kind=6 then {p with ac:=S11.update p.ac (S14.at_ N k c) (S06.squash ((S14.outs (S14.outA N) k).getD c.first.toNat 0)) bit c.rate}
 else p
def S14.learnA(N:S14.N)(bit:Int)(k:Nat):S14.P:=S14.learnP N bit k (N.comps.getD k S14.zc) (N.parts.getD k S14.P0)
def S14.freshA(c:S14.C):S14.P:=
 if c.kind=1 then S14.fresh1 (2^c.bits.toNat)else if c.kind=2 then S14.freshH c.bits
 else if c.kind=3 then {S14.P0 with m:=S12.newM c.bits c.limit}
 else if c.kind=5 then {S14.P0 with mi:=c.second-c.first+1,mw:=List.replicate (2^c.bits.toNat) (List.replicate (c.second-c.first+1).toNat (65536/(c.second-c.first+1)))}
 else if c.kind=6 then {S14.P0 with ac:=zeI S11.first (2^c.bits.toNat)}else S14.P0
theorem zcP{c:S14.C}{p:S14.P}{pt:Int}(h:c.kind=0∨c.kind=4):S14.right c p pt=true↔S14.bare p=true:=by
 unfold S14.right;rcases h with h|h
 ·rw[zQ h]
 ·rw[zI (by omega),zI (by omega),zI (by omega),zI (by omega),zQ h]
theorem zeH{c:S14.C}{p:S14.P}{pt:Int}(h:c.kind=1):S14.right c p pt=true↔S14.bare {p with ctrs:=[]}=true∧S14.okCtrs p.ctrs (2^c.bits.toNat) c.limit=true:=by
 unfold S14.right;rw[zI (by omega),zQ h,zS]
theorem zdU{c:S14.C}{p:S14.P}{pt:Int}(h:c.kind=2):S14.right c p pt=true↔(((S14.okCtrs p.ctrs 215 c.limit=true∧p.sb=c.bits)∧S10.check p.sb p.sd=0)∧(0≤p.slot∧p.slot≤2^c.bits.toNat-1))∧S14.bare {p with ctrs:=[],sb:=0,sd:=[],slot:=0}=true:=by
 unfold S14.right;rw[zI (by omega),zI (by omega),zQ h];simp only[zS,yB,beq_iff_eq,S14.has_iff]
theorem zgF{c:S14.C}{p:S14.P}{pt:Int}(h:c.kind=3):S14.right c p pt=true↔(((S14.bare {p with m:=S14.zM}=true∧p.m.bits=c.bits)∧p.m.least=c.limit)∧p.m.part=pt)∧S12.check p.m=0:=by
 unfold S14.right;rw[zI (by omega),zI (by omega),zI (by omega),zQ h];simp only[zS,yB,beq_iff_eq]
theorem zhD{c:S14.C}{p:S14.P}{pt:Int}(h:c.kind=5):S14.right c p pt=true↔((S14.bare {p with mi:=0,mw:=[]}=true∧p.mi=c.second-c.first+1)∧(p.mw.length:Int)=2^c.bits.toNat)∧S13.check 16 p.mi p.mw=0:=by
 unfold S14.right;rw[zI (by omega),zI (by omega),zI (by omega),zI (by omega),zI (by omega),zQ h];simp only[zS,yB,beq_iff_eq]
theorem zeG{c:S14.C}{p:S14.P}{pt:Int}(h:c.kind=6):S14.right c p pt=true↔(S14.bare {p with ac:=[]}=true∧(p.ac.length:Int)=33*2^c.bits.toNat)∧S11.check p.ac=0:=by
 unfold S14.right;rw[zI (by omega),zI (by omega),zI (by omega),zI (by omega),zI (by omega),zI (by omega),zQ h];simp only[zS,yB]
theorem okCtrs_iff{l:List (Int×Int)}{n:Nat}{limit:Int}:S14.okCtrs l n limit=true↔l.length=n∧∀c∈l,S08.check c.1 c.2 limit=0:=by
 unfold S14.okCtrs;simp only[zS,yB,Bool.not_eq_true',List.any_eq_false,Decidable.not_not]
theorem step_check{p n bit limit:Int}(h:S08.check p n limit=0)(hb:bit=0∨bit=1):S08.check (S08.updateP p n bit limit) (S08.updateN p n bit limit) limit=0:=by
 obtain⟨h1,h2,h3,h4,h5,h6⟩:=S08.check_ok h;have hE:S08.updateE p n bit limit=0:=by unfold S08.updateE;rw[zI (by rw[h];simp),zI (by omega)]
 have hs:=S08.step_between h3 h4 h5 hb;unfold S08.updateP S08.updateN;rw[zI (by rw[hE];simp),zI (by rw[hE];simp)];have hr:0≤S08.step p n bit∧S08.step p n bit≤65535:=by
  rcases hb with hb|hb
  ·have:=hs.2 hb;omega
  ·have:=hs.1 hb;omega
 unfold S08.check;rw[zI (by omega),zI (by omega)]
theorem zrA{l:List (Int×Int)}{n i:Nat}{bit limit:Int}(h:S14.okCtrs l n limit=true)(hi:i<n)(hb:bit=0∨bit=1):S14.okCtrs (S14.upd l i bit limit) n limit=true:=by
 rw[okCtrs_iff]at h⊢;unfold S14.upd;refine⟨by rw[zaH];exact h.1,fun c hc=> ?_⟩;rcases List.mem_or_eq_of_mem_set hc with hc|rfl
 ·exact h.2 c hc
 ·have hm:l.getD i (0,0)∈l:=by
   rw[zR,zG (by omega),zfE];exact zaK _
  exact step_check (h.2 _ hm) hb
theorem zrN{bits:Int}{xs:List Int}(h:S10.check bits xs=0)(hok:OK8 xs):∃n:Nat,bits=n∧Good n xs:=by
 obtain⟨n,rfl,hn,hl,hb⟩:=S10.correct h;refine⟨n,rfl,hn,hl,hok,fun j hj hz=> ?_⟩;rw[S10.bad_eq hl]at hb;unfold S10.badP at hb;rw[List.any_eq_false]at hb;have h2:=hb j (List.mem_range.2 (by omega));unfold S10.bad2 at h2;rw[zT hz,zcD,yB]at h2;omega
theorem zrB:∀p<256,1≤p→1≤S14.node p∧S14.node p≤15:=by decide +kernel
theorem bitM_facts(m:S12.M)(b:Int):(S12.bitM m b).bits=m.bits∧(S12.bitM m b).least=m.least∧(S12.bitM m b).part=(if 255<2*m.part+b then 1 else 2*m.part+b)∧((S12.bitM m b).bytes=m.bytes∨(255<2*m.part+b∧(S12.bitM m b).bytes=m.bytes ++ [2*m.part+b-256])):=by
 obtain⟨l1,l2,l3,l4,l5⟩:=S12.learn_bits m b;unfold S12.bitM S12.expect S12.take;rw[l4];by_cases h:255<2*m.part+b
 ·rw[zQ h,zQ h];simp only;unfold S12.search S12.extend;refine⟨?_,?_,?_,.inr ⟨h,?_⟩⟩<;>(repeat' split)<;>simp_all
 ·rw[zI h,zI h];exact⟨l1,l2,rfl,.inl l3⟩
structure GoodP(t:Nat)(c:S14.C)(p:S14.P)(pt:Int):Prop where
 right:S14.right c p pt=true
 tab:OK8 p.sd
 byt:S12.Byt p.m.bytes
 few:p.m.bytes.length≤t
structure GoodN(N:S14.N)(t:Nat):Prop where
 check:S14.check N.comps=0
 len:N.parts.length=N.comps.length
 xl:N.ctxs.length=16
 pt:1≤N.part∧N.part≤255
 ps:∀(k:Nat) (c:S14.C) (p:S14.P),N.comps[k]? = some c→N.parts[k]? = some p→GoodP t c p N.part
theorem GoodN.net{N:S14.N}{t:Nat}(h:GoodN N t):S14.checkNet N=0:=S14.checkNet_of h.check h.len h.xl h.pt (fun k c p h1 h2=>(h.ps k c p h1 h2).right)
theorem at_lt{N:S14.N}{k:Nat}{c:S14.C}(h:0≤c.bits∧c.bits≤16):S14.at_ N k c<2^c.bits.toNat:=S14.index_lt _ _ (by omega)
theorem S14.outs_in{N:S14.N}{L:NLay}{w:World}{O:Nat→List Int→Int}(HK:zfM N L w O):∀k,k≤N.comps.length→∀x∈S14.outs O k,-3071≤x∧x≤3071
 | 0,_,x,hx=>by cases hx
 | k+1,hk,x,hx=>by
   have ih:=S14.outs_in HK k (by omega);rw[S14.outs,List.mem_append,zaP]at hx;rcases hx with h|rfl
   ·exact ih x h
   ·have hc:N.comps[k]? = some N.comps[k]:=zG (by omega);have hb:Below w.heap.size w (w.alloc (.cells (zaF (S14.outs O k)).toArray 3)):=(zF _ _).alloc (zE _) _;exact(HK k _ hc (S14.outs O k) (some ⟨w.heap.size,0,none⟩) _ hb (Rd.new w (zaF (S14.outs O k)) _) (S14.outs_length O k) ih).2
theorem GoodP.hist{t:Nat}{N:S14.N}{c:S14.C}{p:S14.P}{bit:Int}(h:GoodP t c p N.part)(hk:c.kind=2)(hpt:1≤N.part∧N.part≤255)(hb:bit=0∨bit=1) :
 S10.getN p.sb p.sd p.slot (S14.node N.part.toNat:Nat)=(S14.st N p:Int)∧S14.st N p<215∧p.ctrs.length=215∧S09.nextE (S14.st N p) bit=0∧(0≤S09.nextS (S14.st N p) bit∧S09.nextS (S14.st N p) bit<215)∧
  S10.setE p.sb p.sd p.slot (S14.node N.part.toNat:Nat) (S09.nextS (S14.st N p) bit)=0:=by
 obtain⟨⟨⟨⟨h1,h2⟩,h3⟩,h4⟩,h5⟩:=(zdU hk).1 h.right;have hg:=S10.getN_lt p.slot (S14.node N.part.toNat:Nat) h3 h.tab;have hs:S10.getN p.sb p.sd p.slot (S14.node N.part.toNat:Nat)=(S14.st N p:Int):=(Int.toNat_of_nonneg hg.1).symm;have hl:S14.st N p<215:=by unfold S14.st;omega
 obtain⟨B,hB,rfl⟩:∃B:Nat,B<2∧bit=(B:Int):=by rcases hb with rfl|rfl;exact⟨0,by decide,rfl⟩;exact⟨1,by decide,rfl⟩
 have hx:=S09.nextS_ok (s:=(S14.st N p:Int)) ⟨by omega,by omega⟩ hB;have hr:=S09.next_range (s:=(S14.st N p:Int)) ⟨by omega,by omega⟩ hB;rw[←hx.1]at hr;have hn:=zrB N.part.toNat (by omega) (by omega);refine⟨hs,hl,(okCtrs_iff.1 h1).1,hx.2,hr,?_⟩;unfold S10.setE;have hnd:S10.node p.sb p.sd p.slot (S14.node N.part.toNat:Nat)=0:=by
  unfold S10.node;rw[zQ h3];unfold S10.exists;rw[zT (by rw[h2];omega),zT (by omega)];rfl
 rw[zQ hnd,zQ (by omega)]
theorem GoodP.mix{t:Nat}{N:S14.N}{k:Nat}{c:S14.C}{p:S14.P}(h:GoodP t c p N.part)(hk:c.kind=5)(hbits:0≤c.bits∧c.bits≤16)(hfs:0≤c.first∧c.first≤c.second∧c.second≤(k:Int)-1)
 (hO:∀x∈S14.outs (S14.outA N) k,-3071≤x∧x≤3071):S13.usable 16 p.mi p.mw (S14.at_ N k c:Nat) (S14.seen N k c)=0:=by
 obtain⟨⟨⟨h1,h2⟩,h3⟩,h4⟩:=(zhD hk).1 h.right;have hat:=at_lt (N:=N) (k:=k) hbits;have hl:(S14.seen N k c).length=c.second.toNat+1-c.first.toNat:=by unfold S14.seen;rw[yR,List.length_drop,S14.outs_length];omega
 unfold S13.usable;have hpw:((2^c.bits.toNat:Nat):Int)=2^c.bits.toNat:=by simp
 rw[zI (by rw[h4];simp),zI (by rw[h3];omega),zI (by rw[hl,h2];omega),zI];rw[Bool.not_eq_true,List.any_eq_false];intro x hx;have hx2:=hO x (List.mem_of_mem_drop (List.mem_of_mem_take hx));unfold S13.strong;simp;omega
theorem GoodP.refine{t:Nat}{N:S14.N}{k:Nat}{c:S14.C}{p:S14.P}(h:GoodP t c p N.part)(hk:c.kind=6)(hbits:0≤c.bits∧c.bits≤16)(x:Int):S11.usable p.ac (S14.at_ N k c:Nat) (S06.squash x)=0:=by
 obtain⟨⟨h1,h3⟩,h4⟩:=(zeG hk).1 h.right;have hat:=at_lt (N:=N) (k:=k) hbits;have hq:=S06.squash_bounds x;have h3':p.ac.length=33*2^c.bits.toNat:=by
  have:((33*2^c.bits.toNat:Nat):Int)=33*2^c.bits.toNat:=by simp
  omega
 unfold S11.usable;rw[zI (by rw[h4];simp),zI (by rw[h3',Nat.mul_div_cancel_left _ (by decide)];omega),zI (by omega)]
theorem zrO{l:List Int}(h1:l.length%33=0)(h2:33≤l.length)(h3:l.length≤2162688)(h4:∀x∈l,0≤x∧x≤65535):S11.check l=0:=by
 unfold S11.check;rw[zI (by omega),zI];rw[Bool.not_eq_true,List.any_eq_false];intro x hx;have:=h4 x hx;unfold S11.bad;simp;omega
theorem zpX{l:List Int}(h:S11.check l=0):(l.length%33=0∧33≤l.length∧l.length≤2162688)∧∀x∈l,0≤x∧x≤65535:=by
 unfold S11.check at h;split at h
 ·cases h
 ·split at h
  ·cases h
  ·rename_i h1 h2
   refine⟨by omega,fun x hx=> ?_⟩;rw[Bool.not_eq_true,List.any_eq_false]at h2;have:=h2 x hx;unfold S11.bad at this;simp at this;omega
theorem check11_upd{l:List Int}{c:Nat}{p bit rate:Int}(h:S11.check l=0)(hb:bit=0∨bit=1)(hr:1≤rate∧rate≤255):S11.check (S11.update l c p bit rate)=0:=by
 obtain⟨⟨h1,h2,h3⟩,h4⟩:=zpX h;have hl:=S11.update_length l c p bit rate;have hf:=S11.from_bounds p
 have hg:∀i,0≤l.getD i 0∧l.getD i 0≤65535:=fun i=>by
  rw[zR];rcases zaE i l.length with hi|hi
  ·rw[zG hi,zfE];exact h4 _ (zaK hi)
  ·rw[yW hi];simp
 refine zrO (by omega) (by omega) (by omega) (fun y hy=> ?_);have k1:=fun i=>(S11.learn_facts (u:=l.getD i 0) (hg i).1 (hg i).2 hb (rate:=rate) (by omega) (by omega) (share:=192-S11.from p) (by omega) (by omega)).2.2.2.2;have k2:=fun i=>(S11.learn_facts (u:=l.getD i 0) (hg i).1 (hg i).2 hb (rate:=rate) (by omega) (by omega) (share:=S11.from p) (by omega) (by omega)).2.2.2.2;unfold S11.update at hy;rcases List.mem_or_eq_of_mem_set hy with hy|rfl
 ·rcases List.mem_or_eq_of_mem_set hy with hy|rfl
  ·exact h4 y hy
  ·exact k1 _
 ·exact k2 _
theorem zoJ(d rate:Int):∀ws xs:List Int,ws.any S13.heavy=false→(S13.learnRow d rate ws xs).any S13.heavy=false
 | [],xs,h=>by cases xs<;>exact h
 | w::ws,[],h=>h
 | w::ws,x::xs,h=>by
   rw[List.any_cons,Bool.or_eq_false_iff]at h;show(S13.lw d rate w x::S13.learnRow d rate ws xs).any S13.heavy=false;rw[List.any_cons,zoJ d rate ws xs h.2,Bool.or_false];unfold S13.lw S13.heavy;simp;omega
theorem zsQ{n:Int}{L:List (List Int)}(h:S13.check 16 n L=0)(c:Nat)(xs:List Int)(bit rate:Int):S13.check 16 n (S13.learnL L c xs bit rate)=0:=by
 obtain⟨h1,h2,h3,h4,h5⟩:=S13.check_zero h;unfold S13.check;have hl:(S13.learnL L c xs bit rate).length=L.length:=by unfold S13.learnL;rw[zaH]
 rw[zI (by omega)];refine S13.rows_of (fun l hl2=> ?_);unfold S13.learnL at hl2;rcases List.mem_or_eq_of_mem_set hl2 with hl2|rfl
 ·exact h5 l hl2
 ·rw[S13.learnRow_length];by_cases hc:c<L.length
  ·have hm:L.getD c []∈L:=by
    rw[zR,zG hc,zfE];exact zaK _
   exact⟨(h5 _ hm).1,zoJ _ _ _ _ (h5 _ hm).2⟩
  ·rw[List.set_eq_of_length_le (by omega)]at hl2;rw[←S13.learnRow_length];exact h5 _ hl2
theorem GoodP.learn{t:Nat}{N:S14.N}{k:Nat}{c:S14.C}{p:S14.P}{bit:Int}(h:GoodP t c p N.part)(hok:S14.ok c (k:Int)=true)(hpt:1≤N.part∧N.part≤255)(ht:t<65536)(hb:bit=0∨bit=1):GoodP (t+1) c (S14.learnP N bit k c p) (S14.next N.part bit):=by
 have hi:=S14.ok_is hok;unfold S14.learnP;rcases hi.kind with hk|hk|hk|hk|hk|hk|hk
 ·rw[zI (by omega),zI (by omega),zI (by omega),zI (by omega),zI (by omega)];exact⟨(zcP (.inl hk)).2 ((zcP (.inl hk)).1 h.right),h.tab,h.byt,Nat.le_succ_of_le h.few⟩
 ·rw[zQ hk];have hr:=(zeH hk).1 h.right;exact⟨(zeH hk).2 ⟨hr.1,zrA hr.2 (at_lt hi.bits) hb⟩,h.tab,h.byt,Nat.le_succ_of_le h.few⟩
 ·rw[zI (by omega),zQ hk];obtain⟨g1,g2,g3,g4,g5,g6⟩:=h.hist hk hpt hb;obtain⟨⟨⟨⟨h1,h2⟩,h3⟩,h4⟩,h5⟩:=(zdU hk).1 h.right;obtain⟨n,hn,hG⟩:=zrN h3 h.tab;have hnr:=zrB N.part.toNat (by omega) (by omega);have hcb:c.bits.toNat=n:=by omega
  rw[hcb]at h4;have h2n:((2^n:Nat):Int)=2^n:=by simp
  obtain⟨sl,hsl⟩:∃x:Nat,p.slot=(x:Int):=⟨p.slot.toNat,by omega⟩;have hsn:sl<2^n:=by omega
  have eB:=hG.setB (i:=sl) (k:=S14.node N.part.toNat) hsn hnr.1 hnr.2 g5;have eX:=hG.setX (i:=sl) (k:=S14.node N.part.toNat) hsn hnr.1 hnr.2 g5;rw[←hn,←hsl]at eB eX;have hG2:=hG.set (16*sl+S14.node N.part.toNat) (S09.nextS (S14.st N p) bit) ⟨g5.1,by omega⟩ (fun _=>g5.2);refine⟨(zdU hk).2 ⟨⟨⟨⟨zrA h1 g2 hb,?_⟩,?_⟩,?_⟩,h5⟩,?_,h.byt,Nat.le_succ_of_le h.few⟩
  ·show S10.setB _ _ _ _ _=_;rw[eB];exact h2
  ·show S10.check (S10.setB _ _ _ _ _) (S10.setX _ _ _ _ _)=0;rw[eB,eX,hn];exact hG2.check
  ·show 0≤p.slot∧p.slot≤_;rw[hcb];exact h4
  ·show OK8 (S10.setX _ _ _ _ _);rw[eX];exact hG2.ok
 ·rw[zI (by omega),zI (by omega),zQ hk];obtain⟨⟨⟨⟨h1,h2⟩,h3⟩,h4⟩,h5⟩:=(zgF hk).1 h.right;have hw:=(S12.check_iff p.m).1 h5;have hE:=S12.bitE_ok hw hb (by have:=h.few;omega);have eR:S12.bitR p.m bit=S12.bitM p.m bit:=by unfold S12.bitR;rw[zQ hE]
  obtain⟨f1,f2,f3,f4⟩:=bitM_facts p.m bit;rw[eR];refine⟨(zgF hk).2 ⟨⟨⟨⟨h1,f1.trans h2⟩,f2.trans h3⟩,?_⟩,(S12.check_iff _).2 (hw.bitM h.byt hb hE)⟩,h.tab,?_,?_⟩
  ·show(S12.bitM p.m bit).part=_;rw[f3,h4];rfl
  ·show S12.Byt (S12.bitM p.m bit).bytes;rcases f4 with f4|⟨f5,f4⟩
   ·rw[f4];exact h.byt
   ·rw[f4];intro x hx;rw[List.mem_append,zaP]at hx;rcases hx with hx|rfl
    ·exact h.byt x hx
    ·omega
  ·show(S12.bitM p.m bit).bytes.length≤_;have:=h.few;rcases f4 with f4|⟨_,f4⟩
   ·rw[f4];omega
   ·rw[f4,zaD,List.length_singleton];omega
 ·rw[zI (by omega),zI (by omega),zI (by omega),zI (by omega),zI (by omega)];exact⟨(zcP (.inr hk)).2 ((zcP (.inr hk)).1 h.right),h.tab,h.byt,Nat.le_succ_of_le h.few⟩
 ·rw[zI (by omega),zI (by omega),zI (by omega),zQ hk];obtain⟨⟨⟨h1,h2⟩,h3⟩,h4⟩:=(zhD hk).1 h.right;refine⟨(zhD hk).2 ⟨⟨⟨h1,h2⟩,?_⟩,zsQ h4 _ _ _ _⟩,h.tab,h.byt,Nat.le_succ_of_le h.few⟩;show((S13.learnL _ _ _ _ _).length:Int)=_;unfold S13.learnL;rw[zaH];exact h3
 ·rw[zI (by omega),zI (by omega),zI (by omega),zI (by omega),zQ hk];obtain⟨⟨h1,h2⟩,h3⟩:=(zeG hk).1 h.right;have hrt:1≤c.rate∧c.rate≤255:=by
   unfold S14.ok at hok;rw[zI (by omega),zI (by omega),zI (by omega),zI (by omega),zI (by omega),zI (by omega),zQ hk]at hok;unfold S14.okRefine at hok;simp only[zS,S14.has_iff]at hok;omega
  refine⟨(zeG hk).2 ⟨⟨h1,?_⟩,check11_upd h3 hb hrt⟩,h.tab,h.byt,Nat.le_succ_of_le h.few⟩;show((S11.update _ _ _ _ _).length:Int)=_;rw[S11.update_length];exact h2
theorem GoodP.open_{t:Nat}{N:S14.N}{k:Nat}{c:S14.C}{p:S14.P}(h:GoodP t c p N.part)(hc:N.comps[k]? = some c)(hbits:0≤c.bits∧c.bits≤16):GoodP t c (S14.openP N k p) N.part:=by
 unfold S14.openP;rw[hc];by_cases hk:c.kind=2
 ·rw[zQ (by rw[Option.map_some,hk])];obtain⟨⟨⟨⟨h1,h2⟩,h3⟩,h4⟩,h5⟩:=(zdU hk).1 h.right;obtain⟨n,hn,hG⟩:=zrN h3 h.tab;have hcb:c.bits.toNat=n:=by omega
  have hh:=S14.hash_lt (N.ctxs.getD k 0) N.part.toNat;have hX:=hG.openX _ hh;have hL:=hG.openN_lt (S14.hash (N.ctxs.getD k 0) N.part.toNat);have hB:=hG.openB;rw[←hn]at hX hL hB;have h2n:((2^n:Nat):Int)=2^n:=by simp
  unfold S14.open1;refine⟨(zdU hk).2 ⟨⟨⟨⟨h1,?_⟩,?_⟩,?_⟩,h5⟩,hX.ok,h.byt,h.few⟩
  ·show S10.openB _ _=_;rw[hB];exact h2
  ·show S10.check (S10.openB _ _) _=0;rw[hB,hn];rw[hn]at hX;exact hX.check
  ·show 0≤((S10.openN _ _ _:Nat):Int)∧((S10.openN _ _ _:Nat):Int)≤_;rw[hcb];omega
 ·rw[zI (by rw[Option.map_some];exact fun e=>hk (zJ e))];exact h
theorem zjR{N:S14.N}:∀(n j:Nat),(S14.openK N n)[j]? = if j<n then(N.parts[j]?).map (S14.openP N j)else N.parts[j]?
 | 0,j=>by rw[zI (by omega)];rfl
 | n+1,j=>by
   have ih:=zjR (N:=N) n;rw[S14.openK];have hn:=ih n;rw[zI (by omega)]at hn;split
   ·rename_i p hp
    rw[List.getElem?_set];have hl:=(List.getElem?_eq_some_iff.1 hp).1;by_cases hj:n=j
    ·subst hj;rw[zQ rfl,zQ hl,zQ (by omega),←hn,hp];rfl
    ·rw[zI hj,ih j];by_cases h2:j<n
     ·rw[zQ h2,zQ (by omega)]
     ·rw[zI h2,zI (by omega)]
   ·rename_i hp
    rw[ih j];by_cases h2:j<n
    ·rw[zQ h2,zQ (by omega)]
    ·by_cases hj:j=n
     ·subst hj;rw[zI h2,zQ (by omega),←hn,hp];rfl
     ·rw[zI h2,zI (by omega)]
theorem GoodN.open_{N:S14.N}{t:Nat}(h:GoodN N t):GoodN (S14.opened N) t where
 check:=h.check
 len:=(S14.openK_length N _).trans h.len
 xl:=h.xl
 pt:=h.pt
 ps:=fun k c p hc hp=>by
  have hp:(S14.openK N N.comps.length)[k]? = some p:=hp;have hc:N.comps[k]? = some c:=hc;have hk:=(List.getElem?_eq_some_iff.1 hc).1;rw[zjR,zQ hk]at hp;obtain⟨q,hq,rfl⟩:=Option.map_eq_some_iff.1 hp;exact(h.ps k c q hc hq).open_ hc (S14.ok_is ((S14.check_zero h.check).2.2 k c hc)).bits
theorem zhV(G:Nat→S14.P)(ps:List S14.P):∀n j,(S14.parts1 G ps n)[j]? = if j<n∧j<ps.length then some (G j)else ps[j]?
 | 0,j=>by rw[zI (by omega)];rfl
 | n+1,j=>by
   rw[S14.parts1,List.getElem?_set,S14.parts1_length,zhV G ps n j];by_cases hj:n=j
   ·subst hj;rw[zQ rfl];by_cases hl:n<ps.length
    ·rw[zQ hl,zQ ⟨by omega,hl⟩]
    ·rw[zI hl,zI (by omega),yW (by omega)]
   ·rw[zI hj];by_cases hl:j<n∧j<ps.length
    ·rw[zQ hl,zQ ⟨by omega,hl.2⟩]
    ·rw[zI hl,zI (by omega)]
def S14.learned(N:S14.N)(bit:Int):S14.N:=⟨N.comps,S14.parts1 (S14.learnA N bit) N.parts N.comps.length,N.ctxs,S14.next N.part bit⟩
theorem next_range{p bit:Int}(h:1≤p∧p≤255)(hb:bit=0∨bit=1):1≤S14.next p bit∧S14.next p bit≤255:=by
 unfold S14.next;split<;>omega
theorem GoodN.learn{N:S14.N}{t:Nat}(h:GoodN N t)(ht:t<65536){bit:Int}(hb:bit=0∨bit=1):GoodN (S14.learned N bit) (t+1) where
 check:=h.check
 len:=(S14.parts1_length _ _ _).trans h.len
 xl:=h.xl
 pt:=next_range h.pt hb
 ps:=fun k c p hc hp=>by
  have hp:(S14.parts1 (S14.learnA N bit) N.parts N.comps.length)[k]? = some p:=hp;have hc:N.comps[k]? = some c:=hc;have hk:=(List.getElem?_eq_some_iff.1 hc).1;have hkp:k<N.parts.length:=by rw[h.len];exact hk
  rw[zhV,zQ ⟨hk,hkp⟩]at hp;cases hp;have hq:N.parts[k]? = some N.parts[k]:=zG hkp;unfold S14.learnA;rw[zbX hc,zbX hq];exact(h.ps k c _ hc hq).learn ((S14.check_zero h.check).2.2 k c hc) h.pt ht hb
def S14.withCtxs(N:S14.N)(l:List Nat):S14.N:=⟨N.comps,N.parts,l,N.part⟩
theorem GoodN.ctxs{N:S14.N}{t:Nat}(h:GoodN N t){l:List Nat}(hl:l.length=16):GoodN (S14.withCtxs N l) t:=⟨h.check,h.len,hl,h.pt,h.ps⟩
theorem mem_reps{xs:List Int}{n:Nat}{x:Int}(h:x∈zeI xs n):x∈xs:=by
 unfold zeI at h;simp only[List.mem_flatten,List.mem_replicate]at h;obtain⟨l,⟨_,rfl⟩,h⟩:=h;exact h
theorem newM_ok14{bits least:Int}(h1:1≤bits∧bits≤16)(h2:1≤least∧least≤32):S12.newM bits least=S12.start bits least:=by
 have h:S12.okN bits least=true:=by unfold S12.okN;rw[zT h1,zT h2];rfl
 unfold S12.newM;rw[h];rfl
theorem GoodP.fresh{c:S14.C}{k:Int}(hok:S14.ok c k=true)(hk16:k≤16):GoodP 0 c (S14.freshA c) 1:=by
 have hi:=S14.ok_is hok;have h0:OK8 S14.P0.sd:=fun x hx=>by cases hx
 have hm0:S12.Byt S14.P0.m.bytes:=fun x hx=>by cases hx
 unfold S14.freshA
 have hlim:∀l:Int,S14.has l 1 1023=true→S08.check 32768 0 l=0:=fun l hl=>by
  rw[S14.has_iff]at hl;unfold S08.check;rw[zI (by omega),zI (by omega)]
 rcases hi.kind with hk|hk|hk|hk|hk|hk|hk
 ·rw[zI (by omega),zI (by omega),zI (by omega),zI (by omega),zI (by omega)];exact⟨(zcP (.inl hk)).2 rfl,h0,hm0,zE _⟩
 ·rw[zQ hk];unfold S14.ok at hok;rw[zI (by omega),zQ hk]at hok;unfold S14.okDirect at hok;simp only[zS]at hok;refine⟨(zeH hk).2 ⟨rfl,okCtrs_iff.2 ⟨zbA,fun x hx=> ?_⟩⟩,h0,hm0,zE _⟩;have hx:=List.eq_of_mem_replicate hx;subst hx;exact hlim _ hok.2
 ·rw[zI (by omega),zQ hk];unfold S14.ok at hok;rw[zI (by omega),zI (by omega),zQ hk]at hok;unfold S14.okDirect at hok;simp only[zS]at hok;have hbn:=hi.bits;obtain⟨n,hn⟩:∃n:Nat,c.bits=n:=⟨c.bits.toNat,by omega⟩;have hG:=Good.new (n:=n) (by omega);have eB:S10.newB c.bits=c.bits:=zQ hbn;have eX:S10.newX c.bits=List.replicate (16*2^n) 0:=by
   unfold S10.newX;rw[zQ hbn,hn,Int.toNat_natCast]
  have h2n:(0:Int)<2^c.bits.toNat:=by
   have:((2^c.bits.toNat:Nat):Int)=2^c.bits.toNat:=by simp
   have:=zcG c.bits.toNat;omega
  unfold S14.freshH;rw[eB,eX];refine⟨(zdU hk).2 ⟨⟨⟨⟨okCtrs_iff.2 ⟨zbA,fun x hx=> ?_⟩,rfl⟩,?_⟩,?_⟩,rfl⟩,hG.ok,hm0,zE _⟩
  ·have hx:=List.eq_of_mem_replicate hx;subst hx;exact hlim _ hok.2
  ·show S10.check c.bits _=0;rw[hn];exact hG.check
  ·show(0:Int)≤0∧(0:Int)≤_;omega
 ·rw[zI (by omega),zI (by omega),zQ hk];unfold S14.ok at hok;rw[zI (by omega),zI (by omega),zI (by omega),zQ hk]at hok;unfold S14.okMatch at hok;simp only[zS,S14.has_iff]at hok;rw[newM_ok14 hok.1.2 hok.2];have hs:=S12.start_wf hok.1.2 hok.2;exact⟨(zgF hk).2 ⟨⟨⟨⟨rfl,rfl⟩,rfl⟩,rfl⟩,(S12.check_iff _).2 hs.wf⟩,h0,(fun x hx=>by cases hx),zE _⟩
 ·rw[zI (by omega),zI (by omega),zI (by omega),zI (by omega),zI (by omega)];exact⟨(zcP (.inr hk)).2 rfl,h0,hm0,zE _⟩
 ·rw[zI (by omega),zI (by omega),zI (by omega),zQ hk];have hm:=hi.mix hk;have hp:=zoR (n:=c.bits.toNat) (by have:=hi.bits;omega);obtain⟨q,hq⟩:∃q:Nat,c.second-c.first+1=(q:Int):=⟨(c.second-c.first+1).toNat,by omega⟩;refine⟨(zhD hk).2 ⟨⟨⟨rfl,rfl⟩,?_⟩,?_⟩,h0,hm0,zE _⟩
  ·show((List.replicate _ _).length:Int)=_;rw[zbA];simp
  ·show S13.check 16 (c.second-c.first+1) _=0;rw[hq,Int.toNat_natCast];unfold S13.check;rw[zbA,zI (by omega)];refine S13.rows_of (fun l hl=> ?_);have hl:=List.eq_of_mem_replicate hl;subst hl;refine⟨by rw[zbA],?_⟩;rw[List.any_eq_false];intro x hx;have hx:=List.eq_of_mem_replicate hx;subst hx;have hd1:0≤(65536:Int)/q:=Int.ediv_nonneg (by decide) (by omega);have hd2:(65536:Int)/q≤65536:=Int.ediv_le_self _ (by decide);unfold S13.heavy;simp;omega
 ·rw[zI (by omega),zI (by omega),zI (by omega),zI (by omega),zQ hk];have hp:=zoR (n:=c.bits.toNat) (by have:=hi.bits;omega);have hl:(zeI S11.first (2^c.bits.toNat)).length=2^c.bits.toNat*33:=by rw[zdW,S11.first_length]
  refine⟨(zeG hk).2 ⟨⟨rfl,?_⟩,zrO ?_ ?_ ?_ (fun x hx=> ?_)⟩,h0,hm0,zE _⟩
  ·show((zeI S11.first (2^c.bits.toNat)).length:Int)=_;rw[hl,Int.natCast_mul];simp;omega
  ·rw[hl];exact Nat.mul_mod_left _ _
  ·rw[hl];omega
  ·rw[hl];omega
  ·have hx:=mem_reps hx;unfold S11.first at hx;obtain⟨i,_,rfl⟩:=List.mem_map.1 hx;have:=S06.squash_bounds (192*(i:Int)-3072);omega
def S14.newN(l:List S14.C):S14.N:=⟨l,l.map S14.freshA,List.replicate 16 0,1⟩
theorem GoodN.new{l:List S14.C}(h:S14.check l=0):GoodN (S14.newN l) 0 where
 check:=h
 len:=yJ _
 xl:=zbA
 pt:=⟨Int.le_refl 1,(by decide:(1:Int)≤255)⟩
 ps:=fun k c p hc hp=>by
  have hp:(l.map S14.freshA)[k]? = some p:=hp;have hc:l[k]? = some c:=hc;have hk:=(List.getElem?_eq_some_iff.1 hc).1;have hl:=(S14.check_zero h).2.1;rw[zaX,hc]at hp;cases hp;exact GoodP.fresh ((S14.check_zero h).2.2 k c hc) (by omega)
theorem zrS{P:Program}{Y:Array Value→Nat→Option Bool}{Q:Exit→Act→World→Prop}{S:World→Prop}{G:Act→World→Prop}{w:World}{rest:List (KU×Oper)}{o:Oper}{a:Act}(ty:TypeId)(x y:Operand)(ho:o.op = .store ty x y)(hw:Region.wanted o (Y a.tmps)=true)
 (b oo:Nat) (cells:Array Value) (hx:a.eval x = .pointer (some ⟨b,oo,none⟩)) (hy:a.eval y = .agg cells) (ht:w.there b oo cells.size) (hi:(P.info? ty).map (·.size)=some cells.size) (h1:cells.all (·.oneCell')=true)
 (h:zbI P Y Q S G rest (a.put o.dst undef) (w.setCells b oo cells.toList)):zbI P Y Q S G ((.l,o)::rest) a w:=by
 unfold zbI;rw[zQ hw];exact .inl (wp_store_mid ty x y ho b oo cells hx hy ht hi h1 h)
theorem PIs.bareH{p:S14.P}{y:Lay}{w w':World}{l:List (Int×Int)}{a aT:Option Addr}{cap cT:Nat}{B:Int}{XX:List Int}(h:PIs p y w)(hb:S14.bare {p with ctrs:=[],sb:=0,sd:=[],slot:=0}=true)(hr:Rd w' a (Cts l))(ht:Tab XX aT cT w'):PIs {p with ctrs:=l,sb:=B,sd:=XX} {y with a1:=a,c1:=cap,a2:=aT,c2:=cT} w':=by
 obtain⟨_,_,h3,h4,h5,h6,h7⟩:=zeR hb;exact⟨hr,ht,h.mch.nil14 h5 h6 h7,h.mix.nil14 h3,h.apm.nil14 h4⟩
theorem zpJ(c:S14.C)(N:S14.N)(L:NLay)(k:Nat)(b:Value)(hb1:b.oneCell'=true)(p:S14.P)(y:Lay)(s:Nat)(bit:Int)(w:World)(hN:NIs N L w)(hp:N.parts[k]? = some p)(hy:L.ys[k]? = some y)(pt:Nat)(hpt:N.part=(pt:Int))(h1:1≤pt)(h2:pt≤255)
 (hs:S10.getN p.sb p.sd p.slot (S14.node pt:Nat)=(s:Int)) (hsl:s<p.ctrs.length) (hcl:p.ctrs.length≤65536) (hne:S09.nextE s bit=0) (hse:S10.setE p.sb p.sd p.slot (S14.node pt:Nat) (S09.nextS s bit)=0) (hbare:S14.bare {p with ctrs:=[],sb:=0,sd:=[],slot:=0}=true) :
 Calls Tryz.prog 214 #[CV c,VV N L k b,.int .i64 bit] w fun e w'=>∃y',e = .returned (.tuple #[PV {p with ctrs:=S14.upd p.ctrs s bit c.limit,sb:=S10.setB p.sb p.sd p.slot (S14.node pt:Nat) (S09.nextS s bit),sd:=S10.setX p.sb p.sd p.slot (S14.node pt:Nat) (S09.nextS s bit)} y',.int .i64 0])∧
  PRob 0 w.heap.size {p with ctrs:=S14.upd p.ctrs s bit c.limit,sb:=S10.setB p.sb p.sd p.slot (S14.node pt:Nat) (S09.nextS s bit),sd:=S10.setX p.sb p.sd p.slot (S14.node pt:Nat) (S09.nextS s bit)} y' w'∧Below w.heap.size w w':=by
 have hk:k<N.parts.length:=(List.getElem?_eq_some_iff.1 hp).1;have hP:=hN.ps k p y hp hy;have HPt:=zD fun(W:World) (hW:Below w.heap.size w W)=>zbN N L k b hb1 W (hN.step hW) hk p y hp hy;have HSt:=zD fun(W:World) (hW:Below w.heap.size w W)=>zoE c N L k b hb1 p y W (hN.step hW) hp hy pt hpt h1 h2;rw[hs]at HSt;have HNx:=zD fun(W:World)=>next09_any (s:Int) bit W;have HUp:=zD fun(W:World) (hW:Below w.heap.size w W)=>zjI p.ctrs s hsl hcl bit c.limit y.a1 y.c1 W (hP.rc.step hW);have HNd:=zD fun(W:World)=>znX N L k b W pt hpt h1 h2;have HSe:=zD fun(W:World) (hW:Below w.heap.size w W)=>set10_any p.sb p.sd p.slot (S14.node pt:Nat) (S09.nextS s bit) y.a2 y.c2 W (hP.tab.step hW);have Hok:=zD (OK8.setX hP.tab.ok p.sb p.slot (S14.node pt:Nat) (S09.nextS s bit));obtain⟨ul,hul⟩:∃l,S14.upd p.ctrs s bit c.limit=l:=⟨_,rfl⟩;have hull:ul.length=p.ctrs.length:=by rw[←hul];unfold S14.upd;rw[zaH]
 obtain⟨B,hB⟩:∃x,S10.setB p.sb p.sd p.slot (S14.node pt:Nat) (S09.nextS s bit)=x:=⟨_,rfl⟩;obtain⟨XX,hXX⟩:∃x,S10.setX p.sb p.sd p.slot (S14.node pt:Nat) (S09.nextS s bit)=x:=⟨_,rfl⟩;rw[hB,hXX,hse]at HSe;rw[hne]at HNx;rw[hXX]at Hok;rw[hul]at HUp;rw[hul,hB,hXX];obtain⟨nd,hnd⟩:∃x,((S14.node pt:Nat):Int)=x:=⟨_,rfl⟩;obtain⟨nx',hnx'⟩:∃x,S09.nextS s bit=x:=⟨_,rfl⟩;rw[hnd]at HNd HSe;rw[hnx']at HNx HSe;have HPI:=zD fun(a aT:Option Addr) (cap cT:Nat) (w':World) (hr:Rd w' a (Cts ul)) (ht:Tab XX aT cT w')=>hP.bareH (cap:=cap) (B:=B) hbare hr ht;have HPV1:=zD fun(a:Option Addr) (cap:Nat)=>(show yN {p with ctrs:=ul} {y with a1:=a,c1:=cap}=(yN p y).set 0 (.slice a p.ctrs.length cap) by unfold yN;simp only[hull];rfl);have HPV2:=zD fun(a aT:Option Addr) (cap cT:Nat)=>(show yN {p with ctrs:=ul,sb:=B,sd:=XX} {y with a1:=a,c1:=cap,a2:=aT,c2:=cT}=splice ((yN p y).set 0 (.slice a p.ctrs.length cap)) 1 [.int .i64 B,.slice aT XX.length cT] by unfold yN;simp only[hull];rfl);obtain⟨m,hm⟩:∃m,p.ctrs.length=m:=⟨_,rfl⟩;obtain⟨sb,hsb⟩:∃m,p.sb=m:=⟨_,rfl⟩;obtain⟨sl,hsl2⟩:∃m,p.sd.length=m:=⟨_,rfl⟩;obtain⟨so,hso⟩:∃m,p.slot=m:=⟨_,rfl⟩;unfold zhB at HSe;rw[hsb,hsl2,hso]at HSe;rw[hm]at HUp HPV2;have v0:(yN p y)[0]? = some (.slice y.a1 p.ctrs.length y.c1):=rfl;have v1:(yN p y)[1]? = some (.int .i64 p.sb):=rfl;have v2:(yN p y)[2]? = some (.slice y.a2 p.sd.length y.c2):=rfl;have v3:(yN p y)[3]? = some (.int .i64 p.slot):=rfl;rw[hm]at v0;rw[hsb]at v1;rw[hsl2]at v2;rw[hso]at v3;have hVPl:(yN p y).length=16:=rfl;have hVPo:=zaJ p y;unfold PV at HPt;unfold VV at HPt HSt HNd⊢;unfold PV;obtain⟨VP,hVP⟩:∃v,yN p y=v:=⟨_,rfl⟩;rw[hVP]at HPt hVPl hVPo HPV2 v0 v1 v2 v3;have HVPl:=zD hVPl;have HVPo:=zD hVPo;have Hv:=zD (And.intro v0 (And.intro v1 (And.intro v2 v3)));have Hb1:=zD hb1;obtain⟨nc,hnc⟩:∃n,N.comps.length=n:=⟨_,rfl⟩;obtain⟨np,hnp⟩:∃n,N.parts.length=n:=⟨_,rfl⟩;obtain⟨nx,hnx⟩:∃n,N.ctxs.length=n:=⟨_,rfl⟩;rw[hnc,hnp,hnx,hpt]at HPt HSt HNd⊢;obtain⟨W0,hW0,k1,k2,B0⟩:=zeP w c 117 [.slice L.a1 nc L.c1,.slice L.a2 np L.c2,.slice L.a3 nx L.c3,.int .i64 (pt:Int),.int .i64 (k:Int),b];have hW0s:W0.heap.size=w.heap.size+2:=by rw[←hW0];simp
 obtain⟨W1,hW1⟩:∃W,W0.alloc (.cells zP 83)=W:=⟨_,rfl⟩;have b1:Below W0.heap.size W0 W1:=by rw[←hW1];exact(zF _ _).alloc (zE _) _
 have kR:Blk W1 (w.heap.size+2) (yN S14.P0 zcX) 83:=by rw[←hW1,←hW0s];exact zdL W0
 have k2:=k2.step b1;have k1:=k1.step b1;have B1:=zA B0 b1;clear hnc hnp hnx hpt B0 b1 hVP hVPl hVPo hul hull hB hXX hnd hnx' hm hsb hsl2 hso v0 v1 v2 v3 hP hN hp hy hk hs hsl hcl hne hse hbare hb1 h1 h2 HPV1;obtain⟨kind,bits,limit,rate,first,second⟩:=c;unfold CV at HSt⊢;unfold yA at HSt k1 hW0⊢;simp only at HSt HUp k1 hW0⊢;have hR1:=kR.lt;have hCS:Cells W1 [(⟨w.heap.size+1,0,none⟩,.slice L.a1 nc L.c1),(⟨w.heap.size+1,1,none⟩,.slice L.a2 np L.c2),(⟨w.heap.size+1,2,none⟩,.slice L.a3 nx L.c3),(⟨w.heap.size+1,3,none⟩,.int .i64 (pt:Int)),(⟨w.heap.size+1,4,none⟩,.int .i64 (k:Int)),(⟨w.heap.size+1,5,none⟩,b),(⟨w.heap.size,0,none⟩,.int .i64 kind),(⟨w.heap.size,1,none⟩,.int .i64 bits),(⟨w.heap.size,2,none⟩,.int .i64 limit),(⟨w.heap.size,3,none⟩,.int .i64 rate),(⟨w.heap.size,4,none⟩,.int .i64 first),(⟨w.heap.size,5,none⟩,.int .i64 second)]:=⟨k2.cell 0,k2.cell 1,k2.cell 2,k2.cell 3,k2.cell 4,k2.cell 5,k1.cell 0,k1.cell 1,k1.cell 2,k1.cell 3,k1.cell 4,k1.cell 5,yK⟩;clear k1;go_enter Tryz.func214,Tryz.ntmps214;go_wp2_with (first
  | (rw[hW0])
  | (refine zaB 83 zP zcH (by rfl) (by rfl) ?_;first|rw[hW1]|skip))
 refine zaN 7 1 (.read 0 (.read 2 (.read 3 (.two (.one 1 (.two (.one 4 (.one 5 (.one 6 .done))) (.one 5 (.one 4 (.one 6 .done))))) (.one 5 (.one 1 (.one 4 (.one 6 .done)))))))) _ _ o0P (fun K=>Below W1.heap.size W1 K∧Cells K [(⟨w.heap.size+1,0,none⟩,.slice L.a1 nc L.c1),(⟨w.heap.size+1,1,none⟩,.slice L.a2 np L.c2),(⟨w.heap.size+1,2,none⟩,.slice L.a3 nx L.c3),(⟨w.heap.size+1,3,none⟩,.int .i64 (pt:Int)),(⟨w.heap.size+1,4,none⟩,.int .i64 (k:Int)),(⟨w.heap.size+1,5,none⟩,b),(⟨w.heap.size,0,none⟩,.int .i64 kind),(⟨w.heap.size,1,none⟩,.int .i64 bits),(⟨w.heap.size,2,none⟩,.int .i64 limit),(⟨w.heap.size,3,none⟩,.int .i64 rate),(⟨w.heap.size,4,none⟩,.int .i64 first),(⟨w.heap.size,5,none⟩,.int .i64 second)]) (by kernel_rfl) (yH 7 _).symm (by kernel_rfl) (by kernel_rfl) (by kernel_rfl) (by kernel_rfl) (⟨(zF _ _).drew,hCS⟩) (fun Y Q4 F4 hY hF=> ?_);simp only[Plan.map,ltc,ltz,ldc,ldz,zcV,zdP]
 repeat
  apply zO (by rw[hY];rfl)
  ·intro w2 hS2;(try simp only[Keeps,zfC,Cells]at hS2);go_simp;with_reducible rfl
  simp only[zsZ]
 have fin:∀(b8:Nat) (wS:World),W1.heap.size≤b8→Blk wS b8 VP 83→Below W1.heap.size W1 wS→F4 {tmps:=#[.agg #[.int .i64 kind,.int .i64 bits,.int .i64 limit,.int .i64 rate,.int .i64 first,.int .i64 second],.agg #[.slice L.a1 nc L.c1,.slice L.a2 np L.c2,.slice L.a3 nx L.c3,.int .i64 (pt:Int),.int .i64 (k:Int),b],.int .i64 bit,.pointer (some ⟨w.heap.size,0,none⟩),.pointer (some ⟨(w.heap.size+1),0,none⟩),undef,.pointer (some ⟨(w.heap.size+2),0,none⟩),.int .i64 0,.pointer (some ⟨b8,0,none⟩),undef,undef,undef,.agg #[.slice L.a1 nc L.c1,.slice L.a2 np L.c2,.slice L.a3 nx L.c3,.int .i64 (pt:Int),.int .i64 (k:Int),b],.agg VP.toArray,.agg #[.int .i64 kind,.int .i64 bits,.int .i64 limit,.int .i64 rate,.int .i64 first,.int .i64 second],.agg #[.slice L.a1 nc L.c1,.slice L.a2 np L.c2,.slice L.a3 nx L.c3,.int .i64 (pt:Int),.int .i64 (k:Int),b],.int .i64 (s:Int),undef,undef,undef,undef,undef,undef,undef,undef,undef,undef,undef,undef,undef,undef,undef,undef,undef,undef,undef,undef,undef,undef,undef,undef,undef,undef,undef,undef,undef,undef,undef,undef,undef],defers:=[]} wS:=by
  intro b8 wS zb8 E3 hbS;refine hF _ _ (fun K hK=> ?_);clear hF hY;have HK:=zD hK;clear hK;go_wp2_with fail;refine OnlyK.mk (HK.out _ _ ?_);have kR3:=kR.step hbS;have k23:=k2.step hbS;have B3:=zA B1 hbS;have lim3:wS.cell? ⟨w.heap.size,2,none⟩=some (.int .i64 limit):=(Cells.step hbS hCS).2.2.2.2.2.2.2.2.1;obtain⟨v0,v1,v2,v3⟩:=Hv.out;clear hbS kR k2 B1;go_wp2_with fail;refine(HNx.out _).mono ?_;rintro e w4 ⟨rfl,hb4⟩;have E4:=E3.step hb4;have kR4:=kR3.step hb4;have k24:=k23.step hb4;have B4:=zA B3 hb4;have lim4:=(hb4.cell (zL lim3)).trans lim3;have e40:=(E4.cell 0).trans v0;clear E3 kR3 k23 B3 lim3 hb4;go_wp2_with fail;refine(HUp.out _ B4).mono ?_;rintro e w5 ⟨a,cap,rfl,hfar,hrd,hb5⟩;have E5:=E4.step hb5;have kR5:=kR4.step hb5;have k25:=k24.step hb5;have B5:=zA B4 hb5;have e50:=(E5.cell 0).trans v0;have f50:=E5.free 0;have hz4:b8<w4.heap.size:=E4.lt;have E6:=E5.set 0 (.slice a m cap);have kR6:=kR5.other b8 0 (.slice a m cap) (by omega);have k26:=k25.other b8 0 (.slice a m cap) (by omega);have gA:=zaR w5 b8 0 (.slice a m cap);have hrd6:=hrd.keptRow gA (fun g o e=>by have:=hfar g o e;omega);have B6:=B5.trans (yD gA (by omega) B5.size);have hs6:w5.heap.size≤(w5.setCell ⟨b8,0,none⟩ (.slice a m cap)).heap.size:=gA.size;obtain⟨w6,hw6⟩:∃W,w5.setCell ⟨b8,0,none⟩ (.slice a m cap)=W:=⟨_,rfl⟩;rw[hw6]at E6 kR6 k26 hrd6 B6 hs6;have hfar6:∀g o,a=some ⟨g,o,none⟩→w.heap.size+3≤g∧g≠b8:=fun g o e=>by have:=hfar g o e;omega
  have Hrd6:=zD hrd6;have Hfar6:=zD hfar6;clear E4 kR4 k24 B4 e40 lim4 hb5 hfar hrd gA E5 kR5 k25 hrd6 hfar6 hs6;have e61:w6.cell? ⟨b8,1,none⟩=some (.int .i64 sb):=(E6.cell 1).trans (by rw[List.getElem?_set_ne (by omega)];exact v1);have e62:w6.cell? ⟨b8,2,none⟩=some (.slice y.a2 sl y.c2):=(E6.cell 2).trans (by rw[List.getElem?_set_ne (by omega)];exact v2);have e63:w6.cell? ⟨b8,3,none⟩=some (.int .i64 so):=(E6.cell 3).trans (by rw[List.getElem?_set_ne (by omega)];exact v3);have hC6:zfC [(⟨w.heap.size+1,0,none⟩,.slice L.a1 nc L.c1),(⟨w.heap.size+1,1,none⟩,.slice L.a2 np L.c2),(⟨w.heap.size+1,2,none⟩,.slice L.a3 nx L.c3),(⟨w.heap.size+1,3,none⟩,.int .i64 (pt:Int)),(⟨w.heap.size+1,4,none⟩,.int .i64 (k:Int)),(⟨w.heap.size+1,5,none⟩,b),(⟨b8,1,none⟩,.int .i64 sb),(⟨b8,2,none⟩,.slice y.a2 sl y.c2),(⟨b8,3,none⟩,.int .i64 so)] w6.drew:=⟨k26.cell 0,k26.cell 1,k26.cell 2,k26.cell 3,k26.cell 4,k26.cell 5,e61,e62,e63,yK⟩;clear e61 e62 e63 v0 v1 v2 v3 k26;go_wp2_with (first|(rw[hw6])|fail);refine zfN 12 13 1 [(.p,[true]),(.r,[false,true]),(.p,[false,false,true]),(.r,[false,false,false,true,true]),(.p,[false,false,false,false,false,false,true]),(.e,[false,false,false,false,false,true]),(.e,[false,false,false,false,false,false,false,true]),(.p,[false,false,false,false,false,false,false,false,true,true,true,true]),(.l,[false,false,false,false,false,false,false,false,false,false,false,false,true])] _ _ (zfC [(⟨w.heap.size+1,0,none⟩,.slice L.a1 nc L.c1),(⟨w.heap.size+1,1,none⟩,.slice L.a2 np L.c2),(⟨w.heap.size+1,2,none⟩,.slice L.a3 nx L.c3),(⟨w.heap.size+1,3,none⟩,.int .i64 (pt:Int)),(⟨w.heap.size+1,4,none⟩,.int .i64 (k:Int)),(⟨w.heap.size+1,5,none⟩,b),(⟨b8,1,none⟩,.int .i64 sb),(⟨b8,2,none⟩,.slice y.a2 sl y.c2),(⟨b8,3,none⟩,.int .i64 so)]) (by kernel_rfl) (yH 13 _).symm (by kernel_rfl) (by kernel_rfl) (by kernel_rfl) (by kernel_rfl) (hC6) (fun Y Q4 F4 hY hF=> ?_);simp only[ziR,lfc,lfn,ltc,ltz,ldc,ldz,zjL,zhC,zoH,lmc,lmn,lca,lna,lan]
  repeat
   first
    | (apply zdR (by rw[hY];rfl)
       ·intro w2;go_simp;with_reducible rfl
       simp only[zsZ])
    | (apply zdQ (by rw[hY];rfl)
       ·intro w2 hS2;(try simp only[Keeps,zfC,Cells]at hS2);go_simp;with_reducible rfl
       simp only[zsZ])
  have hbu0:Below w6.heap.size w6 w6.drew:=(zF _ _).drew;apply znU (by rw[hY];rfl)
  ·go_simp;with_reducible exact⟨rfl,rfl⟩
  refine(HNd.out _).mono ?_;rintro e u1 ⟨rfl,hbu10⟩;have hbu1:=zA hbu0 hbu10;refine⟨_,rfl,Cells.step hbu1 hC6,?_⟩;simp only[zsZ]
  repeat
   first
    | (apply zdR (by rw[hY];rfl)
       ·intro w2;go_simp;with_reducible rfl
       simp only[zsZ])
    | (apply zdQ (by rw[hY];rfl)
       ·intro w2 hS2;(try simp only[Keeps,zfC,Cells]at hS2);go_simp;with_reducible rfl
       simp only[zsZ])
  apply znU (by rw[hY];rfl)
  ·go_simp;with_reducible exact⟨rfl,rfl⟩
  refine(HSe.out _ (zA B6 hbu1)).mono ?_;rintro e u2 ⟨V,rfl,TOv,hbu20⟩;have hbu2:=zA hbu1 hbu20;obtain⟨aT,cT,rfl,hT,hF8⟩:=TOv.open Hok.out;have hsz1:=hbu1.size;have hE6:=E6.lt;unfold zhB;refine⟨_,rfl,Cells.step hbu2 hC6,?_⟩;simp only[zsZ]
  repeat
   first
    | (apply zdR (by rw[hY];rfl)
       ·intro w2;go_simp;with_reducible rfl
       simp only[zsZ])
    | (apply zdQ (by rw[hY];rfl)
       ·intro w2 hS2;(try simp only[Keeps,zfC,Cells]at hS2);go_simp;with_reducible rfl
       simp only[zsZ])
  have E7:=E6.step hbu2;have kR7:=kR6.step hbu2;have B7:=zA B6 hbu2;have hrd7:=Hrd6.out.step hbu2;have hl7:(VP.set 0 (.slice a m cap)).length=16:=by rw[zaH];exact HVPl.out
  refine zrS 75 (.tmp 47) (.tmp 45) (by rfl) (by rw[hY];rfl) b8 1 #[.int .i64 B,.slice aT XX.length cT] (by rfl) (by rfl) (E7.there14 (o:=1) (n:=2) (by rw[hl7];decide)) zpG (by simp[Value.oneCell']) ?_;simp only[zsZ];have E8:=E7.setCells [.int .i64 B,.slice aT XX.length cT] 1 (by rw[hl7];exact(by decide:1+2≤16));rw[←HPV2.out a aT cap cT]at E8;have g8:=yZ b8 [.int .i64 B,.slice aT XX.length cT] 1 u2;have kR8:=kR7.keptRow g8 (by intro e;have:=zJ e;omega);have hk8:KepX (fun k=>k=b8) u2 (u2.setCells b8 1 [.int .i64 B,.slice aT XX.length cT]):=KepX.row g8 (fun b e=>.inl (zJ e).symm);have hrd8:=hrd7.kepX hk8 (fun g o e=>(Hfar6.out g o e).2);have hT8:=hT.kepX hk8 (fun g o e=>by have:=hF8 g o e;show¬g=b8;omega);have B8:=B7.trans (yD g8 (by omega) B7.size);have hF9:Fr aT (w.heap.size+3):=hF8.mono (by omega);obtain⟨u3,hu3⟩:∃W,u2.setCells b8 1 [.int .i64 B,.slice aT XX.length cT]=W:=⟨_,rfl⟩;rw[hu3]at E8 kR8 hrd8 hT8 B8;have hu3':u2.setCells b8 1 (#[.int .i64 B,.slice aT XX.length cT]:Array Value).toList=u3:=hu3;rw[hu3'];have Hrd8:=zD hrd8;have HT8:=zD hT8;have HF9:=zD hF9;clear E6 E7 kR6 kR7 B6 B7 hrd7 g8 hk8 hrd8 hT8 hF9 hF8 hT TOv hbu20 hbu10 hbu2 hbu1 hbu0 hC6 hu3 hu3';refine ziO (hF.out _ _ (fun K hK=> ?_));clear hF hY;go_wp2_with fail;refine OnlyK.mk (hK.out _ _ ?_);clear hK;go_wp2_with (first
   | (refine yE 83 (.tmp 8) (by rfl) (by rfl) b8 (by rfl) (yN {p with ctrs:=ul,sb:=B,sd:=XX} {y with a1:=a,c1:=cap,a2:=aT,c2:=cT}) 83 E8 _ Tryz.underlying83 rfl (info_P.trans rfl) ?_)
   | (refine yC 83 (.tmp 6) (.tmp 48) (by rfl) (by rfl) (w.heap.size+2) (by rfl) (yN {p with ctrs:=ul,sb:=B,sd:=XX} {y with a1:=a,c1:=cap,a2:=aT,c2:=cT}) (by rfl) _ 83 kR8 (info_P.trans rfl) rfl (zaJ _ _) ?_;intro wL EL gL sL))
  have hL:=run_loadVar_mid wL _ 0 _ _ _ EL.cells Tryz.underlying83 rfl (info_P.trans rfl);refine bodyPost_ret (v:=.tuple #[.agg (yN {p with ctrs:=ul,sb:=B,sd:=XX} {y with a1:=a,c1:=cap,a2:=aT,c2:=cT}).toArray,.int .i64 0]) ?_ rfl ?_
  ·exact zaQ (show Tryz.f214.results = #[.cell 6 83,.tmp 7]from rfl) (p:=⟨w.heap.size+2,0,none⟩) rfl rfl hL
  ·refine⟨{y with a1:=a,c1:=cap,a2:=aT,c2:=cT},rfl,fun w' hk=> ?_,B8.trans (yD gL (by omega) B8.size)⟩;have hX:KepX (fun k=>k<w.heap.size+3) _ w':=(KepX.row gL (fun b e=>.inl (by show b<_;have:=zJ e;omega))).trans (hk.toX14.mono0 (by omega));exact HPI.out a aT cap cT w' (Hrd8.out.kepX hX (fun g o e=>by have:=(Hfar6.out g o e).1;show¬g<_;omega)) (HT8.out.kepX hX (fun g o e=>by have:=HF9.out g o e;show¬g<_;omega))
 have hbv0:Below W1.heap.size W1 W1.drew:=(zF _ _).drew;obtain⟨v0,hv0⟩:∃v,W1.drew=v:=⟨_,rfl⟩;rw[hv0]at hbv0⊢;refine yX ?_ ?_
 ·skip
  apply zY (by rw[hY];rfl)
  ·go_simp;with_reducible exact⟨rfl,rfl⟩
  refine(HPt.out _ (zA B1 hbv0)).mono ?_;rintro e v1 ⟨rfl,hbv10⟩;have hbv1:=zA hbv0 hbv10;clear hbv10;refine⟨_,rfl,⟨hbv1,Cells.step hbv1 hCS⟩,?_⟩;simp only[zsZ];refine yX ?_ ?_
  ·skip
   apply zY (by rw[hY];rfl)
   ·go_simp;with_reducible exact⟨rfl,rfl⟩
   refine(HSt.out _ (zA B1 hbv1)).mono ?_;rintro e v2 ⟨rfl,hbv20⟩;have hbv2:=zA hbv1 hbv20;clear hbv20;refine⟨_,rfl,⟨hbv2,Cells.step hbv2 hCS⟩,?_⟩;simp only[zsZ];have hbv30:Below v2.heap.size v2 (v2.alloc (.cells #[.slice none 0 0,.int .i64 0,.slice none 0 0,.int .i64 0,.int .i64 0,.int .i64 0,.slice none 0 0,.slice none 0 0,.int .i64 0,.int .i64 0,.int .i64 0,.int .i64 0,.slice none 0 0,.int .i64 0,.slice none 0 0,.slice none 0 0] 83)):=(zF _ _).alloc (zE _) _;have hbv3:=zA hbv2 hbv30;refine yF (by rw[hY];rfl) (by go_simp;first|with_reducible exact⟨rfl,rfl⟩|with_reducible rfl) ((show Below W1.heap.size W1 (v2.alloc (.cells #[.slice none 0 0,.int .i64 0,.slice none 0 0,.int .i64 0,.int .i64 0,.int .i64 0,.slice none 0 0,.slice none 0 0,.int .i64 0,.int .i64 0,.int .i64 0,.int .i64 0,.slice none 0 0,.int .i64 0,.slice none 0 0,.slice none 0 0] 83))∧Cells (v2.alloc (.cells #[.slice none 0 0,.int .i64 0,.slice none 0 0,.int .i64 0,.int .i64 0,.int .i64 0,.slice none 0 0,.slice none 0 0,.int .i64 0,.int .i64 0,.int .i64 0,.int .i64 0,.slice none 0 0,.int .i64 0,.slice none 0 0,.slice none 0 0] 83)) [(⟨w.heap.size+1,0,none⟩,.slice L.a1 nc L.c1),(⟨w.heap.size+1,1,none⟩,.slice L.a2 np L.c2),(⟨w.heap.size+1,2,none⟩,.slice L.a3 nx L.c3),(⟨w.heap.size+1,3,none⟩,.int .i64 (pt:Int)),(⟨w.heap.size+1,4,none⟩,.int .i64 (k:Int)),(⟨w.heap.size+1,5,none⟩,b),(⟨w.heap.size,0,none⟩,.int .i64 kind),(⟨w.heap.size,1,none⟩,.int .i64 bits),(⟨w.heap.size,2,none⟩,.int .i64 limit),(⟨w.heap.size,3,none⟩,.int .i64 rate),(⟨w.heap.size,4,none⟩,.int .i64 first),(⟨w.heap.size,5,none⟩,.int .i64 second)]from⟨hbv3,Cells.step hbv3 hCS⟩)) ?_;simp only[zsZ];have kN:=Blk.new v2 [.slice none 0 0,.int .i64 0,.slice none 0 0,.int .i64 0,.int .i64 0,.int .i64 0,.slice none 0 0,.slice none 0 0,.int .i64 0,.int .i64 0,.int .i64 0,.int .i64 0,.slice none 0 0,.int .i64 0,.slice none 0 0,.slice none 0 0] 83;have zN:W1.heap.size≤v2.heap.size:=hbv2.size;obtain⟨b8,hb8⟩:∃x,v2.heap.size=x:=⟨_,rfl⟩;clear hbv30;rw[hb8]at kN zN⊢;obtain⟨v3,hv3⟩:∃v,(v2.alloc (.cells #[.slice none 0 0,.int .i64 0,.slice none 0 0,.int .i64 0,.int .i64 0,.int .i64 0,.slice none 0 0,.slice none 0 0,.int .i64 0,.int .i64 0,.int .i64 0,.int .i64 0,.slice none 0 0,.int .i64 0,.slice none 0 0,.slice none 0 0] 83))=v:=⟨_,rfl⟩;rw[hv3]at hbv3 kN⊢;refine yQ 83 (.tmp 8) (.tmp 13) (by rfl) (by rw[hY];rfl) b8 (by rfl) VP (by rfl) _ 83 kN (info_P.trans (yI some HVPl.out.symm)) HVPl.out.symm HVPo.out ?_;intro wS ES gS sS;have hbS:Below W1.heap.size W1 wS:=hbv3.trans (yD gS zN hbv3.size);refine⟨⟨hbS,Cells.step hbS hCS⟩,?_⟩;simp only[zsZ];exact yP (fin _ wS zN ES hbS)
  ·skip
   have hbv20:Below v1.heap.size v1 (v1.alloc (.cells #[.slice none 0 0,.int .i64 0,.slice none 0 0,.int .i64 0,.int .i64 0,.int .i64 0,.slice none 0 0,.slice none 0 0,.int .i64 0,.int .i64 0,.int .i64 0,.int .i64 0,.slice none 0 0,.int .i64 0,.slice none 0 0,.slice none 0 0] 83)):=(zF _ _).alloc (zE _) _;have hbv2:=zA hbv1 hbv20;refine yF (by rw[hY];rfl) (by go_simp;first|with_reducible exact⟨rfl,rfl⟩|with_reducible rfl) ((show Below W1.heap.size W1 (v1.alloc (.cells #[.slice none 0 0,.int .i64 0,.slice none 0 0,.int .i64 0,.int .i64 0,.int .i64 0,.slice none 0 0,.slice none 0 0,.int .i64 0,.int .i64 0,.int .i64 0,.int .i64 0,.slice none 0 0,.int .i64 0,.slice none 0 0,.slice none 0 0] 83))∧Cells (v1.alloc (.cells #[.slice none 0 0,.int .i64 0,.slice none 0 0,.int .i64 0,.int .i64 0,.int .i64 0,.slice none 0 0,.slice none 0 0,.int .i64 0,.int .i64 0,.int .i64 0,.int .i64 0,.slice none 0 0,.int .i64 0,.slice none 0 0,.slice none 0 0] 83)) [(⟨w.heap.size+1,0,none⟩,.slice L.a1 nc L.c1),(⟨w.heap.size+1,1,none⟩,.slice L.a2 np L.c2),(⟨w.heap.size+1,2,none⟩,.slice L.a3 nx L.c3),(⟨w.heap.size+1,3,none⟩,.int .i64 (pt:Int)),(⟨w.heap.size+1,4,none⟩,.int .i64 (k:Int)),(⟨w.heap.size+1,5,none⟩,b),(⟨w.heap.size,0,none⟩,.int .i64 kind),(⟨w.heap.size,1,none⟩,.int .i64 bits),(⟨w.heap.size,2,none⟩,.int .i64 limit),(⟨w.heap.size,3,none⟩,.int .i64 rate),(⟨w.heap.size,4,none⟩,.int .i64 first),(⟨w.heap.size,5,none⟩,.int .i64 second)]from⟨hbv2,Cells.step hbv2 hCS⟩)) ?_;simp only[zsZ];have kN:=Blk.new v1 [.slice none 0 0,.int .i64 0,.slice none 0 0,.int .i64 0,.int .i64 0,.int .i64 0,.slice none 0 0,.slice none 0 0,.int .i64 0,.int .i64 0,.int .i64 0,.int .i64 0,.slice none 0 0,.int .i64 0,.slice none 0 0,.slice none 0 0] 83;have zN:W1.heap.size≤v1.heap.size:=hbv1.size;obtain⟨b8,hb8⟩:∃x,v1.heap.size=x:=⟨_,rfl⟩;clear hbv20;rw[hb8]at kN zN⊢;obtain⟨v2,hv2⟩:∃v,(v1.alloc (.cells #[.slice none 0 0,.int .i64 0,.slice none 0 0,.int .i64 0,.int .i64 0,.int .i64 0,.slice none 0 0,.slice none 0 0,.int .i64 0,.int .i64 0,.int .i64 0,.int .i64 0,.slice none 0 0,.int .i64 0,.slice none 0 0,.slice none 0 0] 83))=v:=⟨_,rfl⟩;rw[hv2]at hbv2 kN⊢;apply zY (by rw[hY];rfl)
   ·go_simp;with_reducible exact⟨rfl,rfl⟩
   refine(HSt.out _ (zA B1 hbv2)).mono ?_;rintro e v3 ⟨rfl,hbv30⟩;have hbv3:=zA hbv2 hbv30;have kN:=kN.step hbv30;clear hbv30;refine⟨_,rfl,⟨hbv3,Cells.step hbv3 hCS⟩,?_⟩;simp only[zsZ];refine yQ 83 (.tmp 8) (.tmp 13) (by rfl) (by rw[hY];rfl) b8 (by rfl) VP (by rfl) _ 83 kN (info_P.trans (yI some HVPl.out.symm)) HVPl.out.symm HVPo.out ?_;intro wS ES gS sS;have hbS:Below W1.heap.size W1 wS:=hbv3.trans (yD gS zN hbv3.size);refine⟨⟨hbS,Cells.step hbS hCS⟩,?_⟩;simp only[zsZ];exact yP (fin _ wS zN ES hbS)
 ·skip
  have hbv10:Below v0.heap.size v0 (v0.alloc (.cells #[.slice none 0 0,.int .i64 0,.slice none 0 0,.int .i64 0,.int .i64 0,.int .i64 0,.slice none 0 0,.slice none 0 0,.int .i64 0,.int .i64 0,.int .i64 0,.int .i64 0,.slice none 0 0,.int .i64 0,.slice none 0 0,.slice none 0 0] 83)):=(zF _ _).alloc (zE _) _;have hbv1:=zA hbv0 hbv10;refine yF (by rw[hY];rfl) (by go_simp;first|with_reducible exact⟨rfl,rfl⟩|with_reducible rfl) ((show Below W1.heap.size W1 (v0.alloc (.cells #[.slice none 0 0,.int .i64 0,.slice none 0 0,.int .i64 0,.int .i64 0,.int .i64 0,.slice none 0 0,.slice none 0 0,.int .i64 0,.int .i64 0,.int .i64 0,.int .i64 0,.slice none 0 0,.int .i64 0,.slice none 0 0,.slice none 0 0] 83))∧Cells (v0.alloc (.cells #[.slice none 0 0,.int .i64 0,.slice none 0 0,.int .i64 0,.int .i64 0,.int .i64 0,.slice none 0 0,.slice none 0 0,.int .i64 0,.int .i64 0,.int .i64 0,.int .i64 0,.slice none 0 0,.int .i64 0,.slice none 0 0,.slice none 0 0] 83)) [(⟨w.heap.size+1,0,none⟩,.slice L.a1 nc L.c1),(⟨w.heap.size+1,1,none⟩,.slice L.a2 np L.c2),(⟨w.heap.size+1,2,none⟩,.slice L.a3 nx L.c3),(⟨w.heap.size+1,3,none⟩,.int .i64 (pt:Int)),(⟨w.heap.size+1,4,none⟩,.int .i64 (k:Int)),(⟨w.heap.size+1,5,none⟩,b),(⟨w.heap.size,0,none⟩,.int .i64 kind),(⟨w.heap.size,1,none⟩,.int .i64 bits),(⟨w.heap.size,2,none⟩,.int .i64 limit),(⟨w.heap.size,3,none⟩,.int .i64 rate),(⟨w.heap.size,4,none⟩,.int .i64 first),(⟨w.heap.size,5,none⟩,.int .i64 second)]from⟨hbv1,Cells.step hbv1 hCS⟩)) ?_;simp only[zsZ];have kN:=Blk.new v0 [.slice none 0 0,.int .i64 0,.slice none 0 0,.int .i64 0,.int .i64 0,.int .i64 0,.slice none 0 0,.slice none 0 0,.int .i64 0,.int .i64 0,.int .i64 0,.int .i64 0,.slice none 0 0,.int .i64 0,.slice none 0 0,.slice none 0 0] 83;have zN:W1.heap.size≤v0.heap.size:=hbv0.size;obtain⟨b8,hb8⟩:∃x,v0.heap.size=x:=⟨_,rfl⟩;clear hbv10;rw[hb8]at kN zN⊢;obtain⟨v1,hv1⟩:∃v,(v0.alloc (.cells #[.slice none 0 0,.int .i64 0,.slice none 0 0,.int .i64 0,.int .i64 0,.int .i64 0,.slice none 0 0,.slice none 0 0,.int .i64 0,.int .i64 0,.int .i64 0,.int .i64 0,.slice none 0 0,.int .i64 0,.slice none 0 0,.slice none 0 0] 83))=v:=⟨_,rfl⟩;rw[hv1]at hbv1 kN⊢;apply zY (by rw[hY];rfl)
  ·go_simp;with_reducible exact⟨rfl,rfl⟩
  refine(HPt.out _ (zA B1 hbv1)).mono ?_;rintro e v2 ⟨rfl,hbv20⟩;have hbv2:=zA hbv1 hbv20;have kN:=kN.step hbv20;clear hbv20;refine⟨_,rfl,⟨hbv2,Cells.step hbv2 hCS⟩,?_⟩;simp only[zsZ];apply zY (by rw[hY];rfl)
  ·go_simp;with_reducible exact⟨rfl,rfl⟩
  refine(HSt.out _ (zA B1 hbv2)).mono ?_;rintro e v3 ⟨rfl,hbv30⟩;have hbv3:=zA hbv2 hbv30;have kN:=kN.step hbv30;clear hbv30;refine⟨_,rfl,⟨hbv3,Cells.step hbv3 hCS⟩,?_⟩;simp only[zsZ];refine yQ 83 (.tmp 8) (.tmp 13) (by rfl) (by rw[hY];rfl) b8 (by rfl) VP (by rfl) _ 83 kN (info_P.trans (yI some HVPl.out.symm)) HVPl.out.symm HVPo.out ?_;intro wS ES gS sS;have hbS:Below W1.heap.size W1 wS:=hbv3.trans (yD gS zN hbv3.size);refine⟨⟨hbS,Cells.step hbS hCS⟩,?_⟩;simp only[zsZ];exact yP (fin _ wS zN ES hbS)
theorem fresh_all(l:List S14.C)(hl:l.length≤16):zmA l S14.freshA:=fun k c hc hok W=>by
 have hi:=S14.ok_is hok;have hk:=(List.getElem?_eq_some_iff.1 hc).1;unfold zrQ S14.freshA;rcases hi.kind with h|h|h|h|h|h|h
 ·rw[zQ h,zI (by omega),zI (by omega),zI (by omega),zI (by omega),zI (by omega)];exact(zgV c W).mono fun e w' h=>⟨zcX,h.1,PRob.zero _ _ _,h.2⟩
 ·rw[zI (by omega),zQ h,zQ h];exact ziI c c.bits.toNat _ (by have:=hi.bits;omega) (zaG hi.bits.1) rfl W
 ·rw[zI (by omega),zI (by omega),zQ h,zI (by omega),zQ h];exact zpK c W
 ·rw[zI (by omega),zI (by omega),zI (by omega),zQ h,zI (by omega),zI (by omega),zQ h];exact zpD c W
 ·rw[zI (by omega),zI (by omega),zI (by omega),zI (by omega),zQ h,zI (by omega),zI (by omega),zI (by omega),zI (by omega),zI (by omega)];exact(zhR c W).mono fun e w' h=>⟨zcX,h.1,PRob.zero _ _ _,h.2⟩
 ·rw[zI (by omega),zI (by omega),zI (by omega),zI (by omega),zI (by omega),zQ h,zI (by omega),zI (by omega),zI (by omega),zQ h];have hm:=hi.mix h;have H:=zsH c c.bits.toNat _ (c.second-c.first+1).toNat (by have:=hi.bits;omega) (zaG hi.bits.1) rfl ⟨hm.1,hm.2.1,by omega⟩ (zaG (by omega)) (by omega) W;rw[←zaG (by omega)]at H;exact H
 ·rw[zI (by omega),zI (by omega),zI (by omega),zI (by omega),zI (by omega),zI (by omega),zI (by omega),zI (by omega),zI (by omega),zI (by omega),zQ h];exact zoO c c.bits.toNat _ (by have:=hi.bits;omega) (zaG hi.bits.1) rfl W
theorem rate14{c:S14.C}{k:Int}(h:c.kind=5∨c.kind=6)(hok:S14.ok c k=true):1≤c.rate∧c.rate≤255:=by
 unfold S14.ok at hok;rcases h with h|h
 ·rw[zI (by omega),zI (by omega),zI (by omega),zI (by omega),zI (by omega),zQ h]at hok;unfold S14.okMix at hok;simp only[zS,S14.has_iff]at hok;omega
 ·rw[zI (by omega),zI (by omega),zI (by omega),zI (by omega),zI (by omega),zI (by omega),zQ h]at hok;unfold S14.okRefine at hok;simp only[zS,S14.has_iff]at hok;omega
theorem learnF_all{N:S14.N}{t:Nat}(hg:GoodN N t)(ht:t<65536){bit:Int}(hb:bit=0∨bit=1)(L:NLay)(w:World)(hN:NIs N L w):zhY N L w (S14.outA N) (S14.learnA N bit) bit:=fun k c hc a W hW hrd=>by
 have h0:=hg.net;obtain⟨p,y,hp,hy,hP,hk1,hk2,hok,hr,hp1,hp2⟩:=sees14 hN h0 hc;have hi:=S14.ok_is hok;have hG:=hg.ps k c p hc hp;have hO:=S14.outs_in (out_all N L w hN h0) k (Nat.le_of_lt (List.getElem?_eq_some_iff.1 hc).1);have hNW:=hN.step hW;have hpt:=zaG (b:=N.part) (by omega);have hk16:k<16:=by rw[←hg.xl];exact hk2
 unfold S14.learnA S14.learnP zrP;rw[zbX hc,zbX hp];rcases hi.kind with h|h|h|h|h|h|h
 ·rw[zQ h,zI (by omega),zI (by omega),zI (by omega),zI (by omega),zI (by omega)];exact(zgU N L k c _ rfl bit W hNW hk1 p y hp hy).mono fun e w' h2=>⟨y,h2.1,fun w2 _=>hP.bare14 ((zcP (.inl h)).1 hr),h2.2⟩
 ·rw[zI (by omega),zQ h,zQ h];exact zhL c N L k _ rfl p y c.bits.toNat bit W ((zeH h).1 hr).1 hNW hc hp hy hk2 N.part.toNat hpt (by omega) (zaG hi.bits.1) (by have:=hi.bits;omega) (okCtrs_iff.1 ((zeH h).1 hr).2).1
 ·rw[zI (by omega),zI (by omega),zQ h,zI (by omega),zQ h];obtain⟨g1,g2,g3,g4,g5,g6⟩:=hG.hist h hg.pt hb;exact zpJ c N L k _ rfl p y (S14.st N p) bit W hNW hp hy N.part.toNat hpt (by omega) (by omega) g1 (by omega) (by omega) g4 g6 ((zdU h).1 hr).2
 ·rw[zI (by omega),zI (by omega),zI (by omega),zQ h,zI (by omega),zI (by omega),zQ h];obtain⟨⟨⟨⟨h1,h2⟩,h3⟩,h4⟩,h5⟩:=(zgF h).1 hr;exact zpC c N L k _ rfl p y bit W hNW hp hy (S12.bitE_ok ((S12.check_iff p.m).1 h5) hb (by have:=hG.few;omega)) h1
 ·rw[zI (by omega),zI (by omega),zI (by omega),zI (by omega),zQ h,zI (by omega),zI (by omega),zI (by omega),zI (by omega),zI (by omega)];exact(zhQ N L k c _ rfl bit W hNW hk1 p y hp hy).mono fun e w' h2=>⟨y,h2.1,fun w2 _=>hP.bare14 ((zcP (.inr h)).1 hr),h2.2⟩
 ·have hm:=hi.mix h;obtain⟨g,o,rfl,_⟩:=hrd (fun e=>by have h1:=yI List.length e;rw[yO,S14.outs_length,List.length_nil]at h1;omega);rw[zI (by omega),zI (by omega),zI (by omega),zI (by omega),zI (by omega),zQ h,zI (by omega),zI (by omega),zI (by omega),zQ h]
  exact zsG c N L k g o p y c.bits.toNat c.first.toNat c.second.toNat (S14.outs (S14.outA N) k) bit W hNW hc hp hy hk2 N.part.toNat hpt (by omega) (zaG hi.bits.1) (by have:=hi.bits;omega) (zaG hm.1) (zaG (by omega)) (by omega) (by omega) (by omega) (S14.outs_length _ _) hrd
   (hG.mix h hi.bits hm hO) (by omega) (rate14 (.inl h) hok) ((zhD h).1 hr).1.1.1
 ·have hf:=zoP h hok;obtain⟨g,o,rfl,_⟩:=hrd (fun e=>by have h1:=yI List.length e;rw[yO,S14.outs_length,List.length_nil]at h1;omega);rw[zI (by omega),zI (by omega),zI (by omega),zI (by omega),zI (by omega),zI (by omega),zI (by omega),zI (by omega),zI (by omega),zI (by omega),zQ h];obtain⟨⟨h1,h2⟩,h3⟩:=(zeG h).1 hr
  exact zoN c N L k g o p y c.bits.toNat c.first.toNat (S14.outs (S14.outA N) k) bit W hNW hc hp hy hk2 N.part.toNat hpt (by omega) (zaG hi.bits.1) (by have:=hi.bits;omega) (zaG hf.1) (by omega) (S14.outs_length _ _) hrd
   (hG.refine h hi.bits _) (by have:=(zpX h3).1;omega) hb (rate14 (.inr h) hok) h1
def NetE(E:Nat→Prop)(N:S14.N)(VS:List Value)(w:World):Prop:=∃L,VS=zcN N L∧∀W,KepX E w W→NIs N L W
theorem NetE.kep{E:Nat→Prop}{N:S14.N}{VS:List Value}{w w':World}(h:NetE E N VS w)(hk:KepX E w w'):NetE E N VS w':=h.imp fun _ e=>⟨e.1,fun W hW=>e.2 W (hk.trans hW)⟩
theorem NetE.mono{E E':Nat→Prop}{N:S14.N}{VS:List Value}{w:World}(h:NetE E N VS w)(he:∀k,k<w.heap.size→E' k→E k):NetE E' N VS w:=h.imp fun _ e=>⟨e.1,fun W hW=>e.2 W (hW.mono he)⟩
theorem NetE.step{E:Nat→Prop}{N:S14.N}{VS:List Value}{w w':World}(h:NetE E N VS w)(hb:Below w.heap.size w w'):NetE E N VS w':=h.kep (KepX.below hb)
theorem NetE.len{E:Nat→Prop}{N:S14.N}{VS:List Value}{w:World}(h:NetE E N VS w):VS.length=4:=by obtain⟨L,rfl,_⟩:=h;rfl
theorem NetE.one{E:Nat→Prop}{N:S14.N}{VS:List Value}{w:World}(h:NetE E N VS w):∀v∈VS,v.oneCell'=true:=by
 obtain⟨L,rfl,_⟩:=h;intro v hv;simp only[zcN,List.mem_cons,zbP,or_false]at hv;rcases hv with rfl|rfl|rfl|rfl<;>rfl
theorem NetE.is{E:Nat→Prop}{N:S14.N}{VS:List Value}{w:World}(h:NetE E N VS w):∃L,VS=zcN N L∧NIs N L w:=by
 obtain⟨L,e,h⟩:=h;exact⟨L,e,h w (KepX.refl _ _)⟩
theorem GoodN.opens{N:S14.N}{t:Nat}(h:GoodN N t)(w:World):zfY w N (S14.opened N):=
 have hz:=S14.check_zero h.check
 zsC w N hz.1 hz.2.1 (S14.kinds_of h.check) h.len h.xl h.pt.1 h.pt.2
theorem new_all{l:List S14.C}(h:S14.check l=0)(a:Option Addr)(cap:Nat)(w:World)(hrd:Rd w a (zeN l)) :
 Calls Tryz.prog 15 #[.slice a l.length cap] w fun e w'=>∃VS,e = .returned (.tuple #[.agg VS.toArray,.int .i64 0])∧NetE (fun k=>k<w.heap.size) (S14.opened (S14.newN l)) VS w'∧Below w.heap.size w w':=
 (zhW l S14.freshA (S14.opened (S14.newN l)) a cap w hrd h (fresh_all l (S14.check_zero h).2.1) ((GoodN.new h).opens w)).mono fun e w' ⟨L,h1,h2,h3⟩=>⟨_,h1,⟨L,rfl,h2⟩,h3⟩
def S14.learnN(N:S14.N)(bit:Int):S14.N:=if S14.next N.part bit=1∨16≤S14.next N.part bit∧S14.next N.part bit≤31 then S14.opened (S14.learned N bit)else S14.learned N bit
theorem GoodN.learnN{N:S14.N}{t:Nat}(h:GoodN N t)(ht:t<65536){bit:Int}(hb:bit=0∨bit=1):GoodN (S14.learnN N bit) (t+1):=by
 unfold S14.learnN;split
 ·exact(h.learn ht hb).open_
 ·exact h.learn ht hb
theorem learn_all{N:S14.N}{t:Nat}(hg:GoodN N t)(ht:t<65536){bit:Int}(hb:bit=0∨bit=1){E:Nat→Prop}(VS:List Value)(w:World)(hV:NetE E N VS w) :
 Calls Tryz.prog 25 #[.agg VS.toArray,.int .i64 bit] w fun e w'=>∃VS',e = .returned (.tuple #[.agg VS'.toArray,.int .i64 0])∧NetE (fun k=>k<w.heap.size) (S14.learnN N bit) VS' w'∧Below w.heap.size w w':=by
 obtain⟨L,rfl,hN⟩:=hV.is;refine(zjX N (S14.learnN N bit) L (S14.outA N) (S14.learnA N bit) bit w hN (zoL N L w hN) hg.net (out_all N L w hN hg.net) hb (learnF_all hg ht hb L w hN) (fun h=> ?_) (fun h=> ?_)).mono fun e w' ⟨L',h1,h2,h3⟩=>⟨_,h1,⟨L',rfl,h2⟩,h3⟩
 ·have e:S14.learnN N bit=S14.opened (S14.learned N bit):=zQ h;rw[e];exact(hg.learn ht hb).opens w
 ·exact zI h
theorem ctx_all{w:World}{N:S14.N}{t:Nat}(hg:GoodN N t)(h1:N.part=1){l:List Nat}(hl:l.length=16)(hlx:∀x∈l,x<4294967296){E:Nat→Prop}(hE:∀k,E k→k<w.heap.size)(VS:List Value)(a:Option Addr)(cap:Nat)(hV:NetE E N VS w)(hrd:Rd w a (zsS l)) :
 Calls Tryz.prog 27 #[.agg VS.toArray,.slice a 16 cap] w fun e w'=>∃VS',e = .returned (.tuple #[.agg VS'.toArray,.int .i64 0])∧NetE E (S14.opened (S14.withCtxs N l)) VS' w'∧Below w.heap.size w w':=by
 obtain⟨L,rfl,hN⟩:=hV;have hN0:=hN w (KepX.refl _ _);have e:S14.withCtxs N l=⟨N.comps,N.parts,l,1⟩:=by unfold S14.withCtxs;rw[h1]
 have hO:=(hg.ctxs hl).opens w;rw[e]at hO⊢;exact(zpR N _ L l a cap w E hE hN (zoL N L w hN0) hg.net h1 hl hlx hrd hO).mono fun e w' ⟨L',h1,h2,h3⟩=>⟨_,h1,⟨L',rfl,h2⟩,h3⟩
theorem outs_all{N:S14.N}{t:Nat}(hg:GoodN N t){E:Nat→Prop}(VS:List Value)(w:World)(hV:NetE E N VS w):Calls Tryz.prog 20 #[.agg VS.toArray] w fun e w'=>
 ∃a cap,e = .returned (.tuple #[.slice a N.comps.length cap,.int .i64 0])∧Rd w' a (zaF (S14.outs (S14.outA N) N.comps.length))∧(∀g o,a=some ⟨g,o,none⟩→w.heap.size≤g)∧N.comps.length≤cap∧Below w.heap.size w w':=by
 obtain⟨L,rfl,hN⟩:=hV.is;exact zdJ N L (S14.outA N) w hN (zoL N L w hN) hg.net (out_all N L w hN hg.net)
theorem KepX.grow{E E':Nat→Prop}{a b c:World}(h1:KepX E a b)(h2:KepX E' b c)(he:∀k,k<a.heap.size→E' k→E k):KepX E a c:=
 ⟨h2.os.trans h1.os,h2.tape.trans h1.tape,h2.output.trans h1.output,zZ h1.size h2.size,fun k hE hl=>(h2.same k (fun h=>hE (he k hl h)) (zaY hl h1.size)).trans (h1.same k hE hl)⟩
theorem NetE.grow{E E':Nat→Prop}{N:S14.N}{VS:List Value}{w w':World}(h:NetE E N VS w)(hk:KepX E w w')(he:∀k,k<w.heap.size→E' k→E k):NetE E' N VS w':=h.imp fun _ e=>⟨e.1,fun W hW=>e.2 W (hk.grow hW he)⟩
def bitAt(x j:Nat):Int:=bits BinOp.and IntKind.u8 ((x:Int)/2^(7-j)) 1
inductive Ev where
 | ctx (la:Nat)
 | bit (b:Int)
def zkE(x:Nat):List Ev:=(List.range 8).map fun j=>Ev.bit (bitAt x j)
theorem bitEvs_drop(x:Nat){j:Nat}(h:j<8):(zkE x).drop j=Ev.bit (bitAt x j)::(zkE x).drop (j+1):=by
 obtain rfl|rfl|rfl|rfl|rfl|rfl|rfl|rfl:j=0∨j=1∨j=2∨j=3∨j=4∨j=5∨j=6∨j=7:=by omega
 all_goals rfl
def evs:Nat→List Int→List Ev
 | _,[]=>[]
 | la,x::xs=>.ctx la::(zkE x.toNat++evs x.toNat xs)
def S14.ev(N:S14.N):Ev→S14.N
 | .ctx la=>S14.opened (S14.withCtxs N (ctxL la))
 | .bit b=>S14.learnN N b
def S14.runH:List Ev→S14.N→List S14.N
 | [],N=>[N]
 | .ctx la::es,N=>S14.runH es (S14.ev N (.ctx la))
 | .bit b::es,N=>N::S14.runH es (S14.ev N (.bit b))
theorem ziP:∀(es:List Ev) (N:S14.N),(S14.runH es N).length≤es.length+1
 | [],_=>zE _
 | .ctx la::es,N=>by
   have:=ziP es (S14.ev N (.ctx la));show(S14.runH es (S14.ev N (.ctx la))).length≤_;rw[zaA];omega
 | .bit b::es,N=>by
   have:=ziP es (S14.ev N (.bit b));show(N::S14.runH es (S14.ev N (.bit b))).length≤_;rw[zaA,zaA];omega
theorem zrL:∀(la:Nat) (xs:List Int),(evs la xs).length=9*xs.length
 | _,[]=>rfl
 | la,x::xs=>by
   show(Ev.ctx la::(zkE x.toNat++evs x.toNat xs)).length=_;rw[zaA,zaD,zrL x.toNat xs,zaA];show 8+_+1=_;omega
theorem zrX(xs:List Int)(N:S14.N)(h:xs.length≤24):([]++S14.runH (evs 0 xs) N).length≤4000:=by
 have:=ziP (evs 0 xs) N;have:=zrL 0 xs;rw[List.nil_append];omega
structure GoodC(C:List S14.C)(N:S14.N)(t:Nat):Prop where
 g:GoodN N t
 c:N.comps=C
theorem zmV(N:S14.N)(b:Int):(S14.learnN N b).comps=N.comps:=by unfold S14.learnN;split<;>rfl
structure Shown(C:List S14.C)(D:Nat)(FF:FuncId)(AR:Array Value→Array Value)(Rel:List S14.N→(Nat→Prop)→World→Prop):Prop where
 lt:∀hist FP w,Rel hist FP w→∀k,FP k→k<w.heap.size
 keep:∀hist FP w w' (X:Nat→Prop),Rel hist FP w→KepX X w w'→(∀k,X k→D≤k∧¬FP k)→Rel hist FP w'
 call:∀hist FP (E:Nat→Prop) N t VS w,GoodC C N t→NetE E N VS w→Rel hist FP w→(∀k,FP k→E k)→hist.length≤4000→
  Calls Tryz.prog FF (AR #[.agg VS.toArray]) w fun e w'=>∃FP',e = .returned (.bool true)∧Rel (hist ++ [N]) FP' w'∧KepX FP w w'∧∀k,FP' k→FP k∨w.heap.size≤k
theorem zrJ{C:List S14.C}{D:Nat}{FF:FuncId}{caps:Array Value}{Rel:List S14.N→(Nat→Prop)→World→Prop}(hS:Shown C D FF (fun x=>x++caps) Rel)(hist0:List S14.N)(FP0:Nat→Prop)(N0:S14.N)(t0:Nat)(ht0:t0≤1000)(data:List Int)(hg0:GoodC C N0 t0)(hN1:N0.part=1)(VS:List Value)(a:Option Addr)(cap:Nat)(w:World)(hV:NetE FP0 N0 VS w)(hR0:Rel hist0 FP0 w)
 (hD:D≤w.heap.size) (hen:∀(args:Array Value) (W:World),(callFunc FF args).run Tryz.prog W = .ok (.enter FF args) W) (hd:∀x∈data,0≤x∧x<256) (hl:data.length≤24) (hrd:Rd w a (Bts data)) (hra:data≠ []→∀g o,a=some ⟨g,o,none⟩→¬FP0 g) (hHl:(hist0++S14.runH (evs 0 data) N0).length≤4000) :
 Calls Tryz.prog 30 #[.agg VS.toArray,.slice a data.length cap,.func (.func FF) #[] caps] w fun e w'=>
  ∃VS' N' FP',e = .returned (.tuple #[.agg VS'.toArray,.bool true])∧GoodC C N' (t0+8*data.length)∧N'.part=1∧NetE FP' N' VS' w'∧Rel (hist0++S14.runH (evs 0 data) N0) FP' w'∧KepX FP0 w w'∧∀k,FP' k→FP0 k∨w.heap.size≤k:=by
 obtain⟨H0,hH0⟩:∃H,hist0++S14.runH (evs 0 data) N0=H:=⟨_,rfl⟩;rw[hH0]at hHl⊢;have HHl:=zD hHl;clear hHl;obtain⟨W1,hW1⟩:∃W1,(w.alloc (.cells VS.toArray 26)).alloc (.cells zN 26)=W1:=⟨_,rfl⟩;have k1:Blk W1 w.heap.size VS 26:=by rw[←hW1];exact(Blk.new w _ _).alloc _
 have r1:Blk W1 (w.heap.size+1) [.slice none 0 0,.slice none 0 0,.slice none 0 0,.int .i64 0] 26:=by
  rw[←hW1];have h:=Blk.new (w.alloc (.cells VS.toArray 26)) [.slice none 0 0,.slice none 0 0,.slice none 0 0,.int .i64 0] 26;rwa[zV]at h
 have B1:Below w.heap.size w W1:=by rw[←hW1];exact((zF _ _).alloc (zE _) _).alloc (by simp) _
 have hlt0:=hS.lt _ _ _ hR0;have s1:=zD hg0;have s2:=zD hN1;have s3:=zD (hS.keep _ _ _ _ (fun _=>False) hR0 (KepX.below B1) (fun _ h=>h.elim));have s4:=zD (hV.grow (E':=(fun b=>FP0 b∨b=w.heap.size∨b=w.heap.size+1)) (KepX.below B1) (fun k hk h=>h.elim (fun h=>h) (fun h=>by omega)));have s5:=zD (KepX.below B1:KepX FP0 w W1);have s6:=zD (show∀k,FP0 k→FP0 k∨w.heap.size≤k from fun k h=>.inl h);have s7:=zD (show¬FP0 w.heap.size∧¬FP0 (w.heap.size+1)from⟨fun h=>by have:=hlt0 _ h;omega,fun h=>by have:=hlt0 _ h;omega⟩);have s8:=zD (show hist0++S14.runH (evs 0 (data.drop 0)) N0=H0 from hH0);have Hrd:=zD hrd;have Hra:=zD hra;have HS:=zD hS;unfold zN at hW1;clear hV hrd hR0 hg0 hN1 hlt0 hH0 B1 hS hra;obtain⟨n,hn⟩:∃n,data.length=n:=⟨_,rfl⟩;have Hn:=zD hn;rw[hn]at hl⊢;clear hn;go_enter Tryz.func30,Tryz.ntmps30;go_wp2_with (rw[hW1]);clear hW1;go_loopw [8,16] (fun v i wr=>∃(k la:Nat) (VK:List Value) (Nk:S14.N) (hist:List S14.N) (FP:Nat→Prop),k≤n∧i = .int .i64 (k:Int)∧v = .int .u8 (la:Int)∧la<256∧Hid (Nk.part=1)∧Hid (GoodC C Nk (t0+8*k))∧Hid (Rel hist FP wr)∧Hid (NetE (fun b=>FP b∨b=w.heap.size∨b=w.heap.size+1) Nk VK wr)∧Blk wr w.heap.size VK 26∧Blk wr (w.heap.size+1) [.slice none 0 0,.slice none 0 0,.slice none 0 0,.int .i64 0] 26∧Hid (KepX FP0 w wr)∧Hid (∀k,FP k→FP0 k∨w.heap.size≤k)∧Hid (¬FP w.heap.size∧¬FP (w.heap.size+1))∧Hid (hist++S14.runH (evs la (data.drop k)) Nk=H0)) (fun _ i _=>n-(intOf i).toNat)
 case atStart=>exact⟨0,0,VS,N0,hist0,FP0,by omega,rfl,rfl,by omega,s2,s1,s3,s4,k1,r1,s5,s6,s7,s8⟩
 case round=>
  clear s1 s2 s3 s4 s5 s6 s7 s8 k1 r1;obtain⟨k,la,VK,Nk,hist,FP,hk,rfl,rfl,hla,hp1,hG,hRl,hNE,kr,rr,hKX,hsub,hnot,hH⟩:=hrel;have hwr:=hKX.out.size;have hltF:=zD (HS.out.lt _ _ _ hRl.out);have zB:=rr.lt;by_cases hlt:k<n
  ·have hltz:(k:Int)<(n:Int):=by omega
   have hkl:k<data.length:=by rw[Hn.out];exact hlt
   obtain⟨g,o,rfl,hcs⟩:=(Hrd.out.kepX hKX.out (Hra.out (fun e=>by rw[e]at hkl;exact Nat.not_lt_zero _ hkl))).at (i:=k) (by unfold Bts;rw[yJ];exact hkl);obtain⟨x,hx,hx2,hxe⟩:∃x:Nat,wr.cell? ⟨g,o+k,none⟩=some (.int .u8 (x:Int))∧x<256∧data.drop k=(x:Int)::data.drop (k+1):=by
    have h1:=hcs k (by unfold Bts;rw[yJ];exact hkl);have h2:=hd data[k] (zaK hkl);refine⟨data[k].toNat,?_,by omega,?_⟩
    ·rw[h1,Int.toNat_of_nonneg h2.1];simp[Bts]
    ·rw[Int.toNat_of_nonneg h2.1];exact List.drop_eq_getElem_cons hkl
   have hH2:=zD (show hist++S14.runH ((zkE x).drop 0++evs x (data.drop (k+1))) (S14.ev Nk (.ctx la))=H0 by
    have h:=hH.out;rw[hxe]at h;exact h)
   have hG2:=zD (show GoodC C (S14.ev Nk (.ctx la)) (t0+8*k+0)from⟨(hG.out.g.ctxs (zgL la)).open_,hG.out.c⟩)
   have hP2:=zD (show PartAt 0 (S14.ev Nk (.ctx la)).part by
    show PartAt 0 Nk.part;rw[hp1.out];exact PartAt.zero)
   clear hcs hkl hxe hH;go_wp2_with fail;refine zaN 9 1 (.read 0 (.read 1 (.two (.one 2 (.two (.one 3 (.read 4 (.read 5 (.read 6 (.one 7 (.one 8 .done)))))) (.one 7 (.one 3 (.read 4 (.read 5 (.read 6 (.one 8 .done)))))))) (.one 7 (.one 2 (.one 3 (.read 4 (.read 5 (.read 6 (.one 8 .done)))))))))) _ _ o0P (fun K=>Below wr.heap.size wr K∧Blk K w.heap.size VK 26) (by kernel_rfl) (yH 9 _).symm (by kernel_rfl) (by kernel_rfl) (by kernel_rfl) (by kernel_rfl) (⟨(zF _ _).drew,kr⟩) (fun Y Q4 F4 hY hF=> ?_);simp only[Plan.map,ltc,ltz,ldc,ldz,zcV,zdP]
   repeat
    apply zO (by rw[hY];rfl)
    ·intro w2 hS2;(try simp only[Keeps,Cells]at hS2);go_simp;with_reducible rfl
    simp only[zsZ]
   have hVKl:=zD hNE.out.len;have fin:∀(gc:Nat) (V2:List Value) (b11:Nat) (wS:World),Below wr.heap.size wr wS→Blk wS b11 V2 26→NetE (fun b=>(FP b∨b=w.heap.size∨b=w.heap.size+1)∨b=b11) (S14.ev Nk (.ctx la)) V2 wS→wr.heap.size≤b11→F4 {tmps:=#[.agg VS.toArray,.slice (some ⟨g,o,none⟩) n cap,.func (.func FF) #[] caps,.pointer (some ⟨w.heap.size,0,none⟩),undef,undef,.pointer (some ⟨(w.heap.size+1),0,none⟩),u7,.int .u8 (la:Int),undef,.int .u8 (x:Int),.pointer (some ⟨b11,0,none⟩),u12,u13,.slice (some ⟨g,o,none⟩) n cap,.int .i64 (n:Int),.int .i64 (k:Int),.bool true,.pointer (some ⟨g,o+k,none⟩),.int .u8 (x:Int),.tuple #[.agg V2.toArray,.int .i64 0],.agg VK.toArray,.int .u8 (la:Int),.slice (some ⟨gc,0,none⟩) 16 16,.tuple #[.agg V2.toArray,.int .i64 0],.agg V2.toArray,.int .i64 0,u27,u28,u29,u30,u31,u32,u33,u34,u35,u36,u37,u38,u39,u40,u41,u42,u43,u44,u45,u46,u47,u48,u49,u50,u51,u52,u53,u54,undef,undef,undef,undef],defers:=[]} wS:=by
    intro gc V2 b11 wS BS ES NS hb11;refine hF _ _ (fun K hK=> ?_);clear hF hY;have HK:=zD hK;clear hK;go_wp2_with fail;refine OnlyK.mk (HK.out _ _ ?_);have V2l:=zD NS.len;have V2o:=zD NS.one;have kS:=kr.step BS;have rS:=rr.step BS;have RS:=HS.out.keep _ _ _ _ (fun _=>False) hRl.out (KepX.below BS) (fun _ h=>h.elim);have KS:=hKX.out.grow (KepX.below BS:KepX FP wr wS) (fun k hk h=>(hsub.out k h).elim (fun h=>h) (fun h=>by omega));clear kr rr hNE hG hRl hKX;go_wp2_with (first
     | (refine yE 26 (.tmp 11) (by rfl) (by rfl) b11 (by rfl) V2 26 ES _ Tryz.underlying26 rfl (info_N.trans (yI some V2l.out.symm)) ?_)
     | (refine yC 26 (.tmp 3) (.tmp 30) (by rfl) (by rfl) w.heap.size (by rfl) V2 (by rfl) _ 26 kS (info_N.trans (yI some V2l.out.symm)) (hVKl.out.trans V2l.out.symm) V2o.out ?_;intro s3 E3 g3 z3;clear z3))
    have q1:=zD (HS.out.keep _ _ _ _ (fun b=>b=w.heap.size) RS (KepX.row g3 (fun b e=>.inl (zJ e).symm)) (fun b e=>⟨by omega,by rw[e];exact hnot.out.1⟩));have q2:=zD ((NS.kep (KepX.row g3 (fun b e=>.inl (.inl (.inr (.inl (zJ e).symm)))))).mono (E':=(fun b=>FP b∨b=w.heap.size∨b=w.heap.size+1)) (fun k _ h=>.inl h));have r3:=rS.keptRow g3 (by intro e;have:=zJ e;omega);have q3:=zD (KS.rowB g3 (fun b e=>.inr (by have:=zJ e;omega)));clear NS kS rS BS ES V2l V2o g3 RS KS;go_loopw [13] (fun v wi=>∃(j:Nat) (VJ:List Value) (NJ:S14.N) (hj:List S14.N) (FJ:Nat→Prop),j≤8∧v = .int .i64 (7-(j:Int))∧Hid (PartAt j NJ.part)∧Hid (GoodC C NJ (t0+8*k+j))∧Hid (Rel hj FJ wi)∧Hid (NetE (fun b=>FJ b∨b=w.heap.size∨b=w.heap.size+1) NJ VJ wi)∧Blk wi w.heap.size VJ 26∧Blk wi (w.heap.size+1) [.slice none 0 0,.slice none 0 0,.slice none 0 0,.int .i64 0] 26∧Hid (KepX FP0 w wi)∧Hid (∀k,FJ k→FP0 k∨w.heap.size≤k)∧Hid (¬FJ w.heap.size∧¬FJ (w.heap.size+1))∧Hid (hj++S14.runH ((zkE x).drop j++evs x (data.drop (k+1))) NJ=H0)) (fun v _=>(intOf v+1).toNat)
    case atStart=>exact⟨0,V2,_,hist,FP,by omega,rfl,hP2,hG2,q1,q2,E3,r3,q3,hsub,hnot,hH2⟩
    case round=>
     clear q1 q2 q3 E3 r3 hsub hnot hH2 hG2 hP2 hltF hwr zB;obtain⟨j,VJ,NJ,hj,FJ,hj8,rfl,hpj,hGj,hRj,Nj,Ej,rj,hKj,hsj,hnj,hHj⟩:=hrel;have hwi:=hKj.out.size;have zBj:=rj.lt;by_cases hjl:j<8
     ·have hjz:(0:Int)≤7-(j:Int):=by omega
      have VJl:=zD Nj.out.len;go_wp2_with (first
       | (refine yE 26 (.tmp 3) (by rfl) (by rfl) w.heap.size (by rfl) VJ 26 Ej _ Tryz.underlying26 rfl (info_N.trans (yI some VJl.out.symm)) ?_))
      refine(HS.out.call hj FJ _ NJ _ VJ _ hGj.out Nj.out hRj.out (fun k h=>.inl h) (by have h:=yI List.length hHj.out;rw[zaD]at h;have:=HHl.out;omega)).mono ?_;rintro e w5 ⟨F5,rfl,hR5,hk5,hs5⟩;have hl5:=hk5.size;have Ej:=Ej.kepX hk5 hnj.out.1;have rj:=rj.kepX hk5 hnj.out.2;have N5:=Nj.out.grow (E':=(fun b=>F5 b∨b=w.heap.size∨b=w.heap.size+1)) (hk5.mono (fun k _ h=>.inl h)) (fun k hk h=>h.elim (fun h=>(hs5 k h).elim .inl (fun h=>by omega)) .inr);have K5:=hKj.out.grow hk5 (fun k hk h=>(hsj.out k h).elim (fun h=>h) (fun h=>by omega));have S5:∀k,F5 k→FP0 k∨w.heap.size≤k:=fun k h=>(hs5 k h).elim (hsj.out k) (fun h=>.inr (by omega));have n5:¬F5 w.heap.size∧¬F5 (w.heap.size+1):=⟨fun h=>(hs5 _ h).elim hnj.out.1 (fun h=>by omega),fun h=>(hs5 _ h).elim hnj.out.2 (fun h=>by omega)⟩;have l5:=HS.out.lt _ _ _ hR5;have HR5:=zD hR5;have HN5:=zD N5;have HK5:=zD K5;have HS5:=zD S5;have Hn5:=zD n5;have Hl5:=zD l5;clear hR5 N5 K5 S5 n5 l5 hk5 hs5 Nj hRj hKj hsj hnj;go_wp2_with fail;refine zaN 11 1 (.read 1 (.read 2 (.read 3 (.read 4 (.read 5 (.one 0 (.one 6 (.read 7 (.read 8 (.read 9 (.one 10 .done))))))))))) _ _ o0P (fun _=>True) (by kernel_rfl) (yH 11 _).symm (by kernel_rfl) (by kernel_rfl) (by kernel_rfl) (by kernel_rfl) (yK) (fun Y Q4 F4 hY hF=> ?_);simp only[Plan.map,ltc,ltz,ldc,ldz,zcV,zdP]
      repeat
       apply zO (by rw[hY];rfl)
       ·intro w2 hS2;(try simp only[Keeps,Cells]at hS2);go_simp;with_reducible rfl
       simp only[zsZ]
      refine yF (by rw[hY];rfl) (zbJ 26 (.tmp 3) (by rfl) w.heap.size (by rfl) VJ Ej.drew.cells _ Tryz.underlying26 rfl (info_N.trans (yI some VJl.out.symm))) yK ?_;simp only[zsZ]
      repeat
       apply zO (by rw[hY];rfl)
       ·intro w2 hS2;(try simp only[Keeps,Cells]at hS2);go_simp;with_reducible rfl
       simp only[zsZ]
      obtain⟨bt,hbt⟩:∃bt,bits BinOp.and IntKind.u8 ((x:Int)/2^(7-j)) 1=bt:=⟨_,rfl⟩;have hb01:bt=0∨bt=1:=by rw[←hbt];exact and1_14 x hx2 j
      have hwb:IntKind.i64.wrap bt=bt:=by rcases hb01 with rfl|rfl<;>rfl
      have Hbt:=zD hbt;rw[hbt,hwb];apply zY (by rw[hY];rfl)
      ·go_simp;with_reducible exact⟨rfl,rfl⟩
      refine(learn_all hGj.out.g (by omega) hb01 VJ _ (HN5.out.step (zF _ _).drew)).mono ?_;rintro e w6 ⟨V6,rfl,N6,hb6⟩;have hb6w:Below w5.heap.size w5 w6:=(zF _ _).drew.trans hb6;have E6:=Ej.step hb6w;have r6:=rj.step hb6w
      have N6:=N6.mono (E':=(fun b=>F5 b∨b=w.heap.size∨b=w.heap.size+1)) (fun k _ h=>by
       show k<w5.heap.size;exact h.elim (Hl5.out k) (fun h=>by omega))
      have R6:=HS.out.keep _ _ _ _ (fun _=>False) HR5.out (KepX.below hb6w) (fun _ h=>h.elim);have K6:=HK5.out.grow (KepX.below hb6w:KepX F5 w5 w6) (fun k hk h=>(HS5.out k h).elim (fun h=>h) (fun h=>by omega));refine⟨_,rfl,yK,?_⟩;simp only[zsZ]
      repeat
       apply zO (by rw[hY];rfl)
       ·intro w2 hS2;(try simp only[Keeps,Cells]at hS2);go_simp;with_reducible rfl
       simp only[zsZ]
      refine yQ 26 (.tmp 3) (.tmp 48) (by rfl) (by rw[hY];rfl) w.heap.size (by rfl) V6 (by rfl) _ 26 E6 (info_N.trans (yI some N6.len.symm)) (VJl.out.trans N6.len.symm) N6.one ?_;intro s6 ES6 g6 z6;refine⟨yK,?_⟩;simp only[zsZ];have q1:=zD (HS.out.keep _ _ _ _ (fun b=>b=w.heap.size) R6 (KepX.row g6 (fun b e=>.inl (zJ e).symm)) (fun b e=>⟨by omega,by rw[e];exact Hn5.out.1⟩));have q2:=zD (N6.kep (KepX.row g6 (fun b e=>.inl (.inr (.inl (zJ e).symm)))));have rS6:=r6.keptRow g6 (by intro e;have:=zJ e;omega);have q3:=zD (K6.rowB g6 (fun b e=>.inr (by have:=zJ e;omega)));have q4:=zD (show GoodC C (S14.learnN NJ bt) (t0+8*k+(j+1))from⟨hGj.out.g.learnN (by omega) hb01,(zmV _ _).trans hGj.out.c⟩)
      have q5:=zD (show PartAt (j+1) (S14.learnN NJ bt).part by
       have h:=hpj.out.next hjl hb01;unfold S14.learnN;split<;>exact h)
      have q6:=zD (show(hj ++ [NJ])++S14.runH ((zkE x).drop (j+1)++evs x (data.drop (k+1))) (S14.learnN NJ bt)=H0 by
       have h:=hHj.out;have hd8:(zkE x).drop j=Ev.bit bt::(zkE x).drop (j+1):=by
        rw[bitEvs_drop x hjl,show bitAt x j=bt from Hbt.out]
       rw[hd8]at h;rw[List.append_assoc];exact h)
      refine yP (hF _ _ (fun K2 hK2=> ?_));clear hF hY g6 z6 E6 r6 N6 hb6 hb6w HN5 Ej rj hGj hpj hbt R6 K6 hHj;have HK2:=zD hK2;clear hK2;go_wp2_with fail;refine OnlyK.mk (HK2.out _ _ ?_);go_wp2_with fail;go_roundw
      case rel=>exact⟨j+1,V6,_,_,F5,by omega,by simp;omega,q5,q4,q1,q2,ES6,rS6,q3,HS5,Hn5,q6⟩
      case measure=>simp[intOf];omega
     ·obtain rfl:j=8:=by omega
      have hp1':=zD hpj.out.one;have q6:=zD (show hj++S14.runH (evs x (data.drop (k+1))) NJ=H0 from hHj.out);have q4:=zD (show GoodC C NJ (t0+8*(k+1))from hGj.out);clear hHj hGj hpj;go_wp2_with fail;go_roundw
      case rel=>exact⟨k+1,x,VJ,NJ,hj,FJ,by omega,by simp,rfl,hx2,hp1',q4,hRj,Nj,Ej,rj,hKj,hsj,hnj,q6⟩
      case measure=>simp[intOf];omega
   have hbv0:Below wr.heap.size wr wr.drew:=(zF _ _).drew;obtain⟨v0,hv0⟩:∃v,wr.drew=v:=⟨_,rfl⟩;have kv0:Blk v0 w.heap.size VK 26:=by rw[←hv0];exact kr.drew
   rw[hv0]at hbv0⊢
   have hEsz:∀(W:World),Below wr.heap.size wr W→∀k,(fun b=>FP b∨b=w.heap.size∨b=w.heap.size+1) k→k<W.heap.size:=fun W hW k h=>by
    have:=hW.size;exact h.elim (fun h=>by have:=hltF.out k h;omega) (fun h=>by omega)
   refine zO (by rw[hY];rfl) (fun w2 hS2=>zbJ 26 (.tmp 3) (by rfl) w.heap.size (by rfl) VK hS2.2.cells _ Tryz.underlying26 rfl (info_N.trans (yI some hVKl.out.symm))) ?_;simp only[zsZ]
   repeat
    apply zO (by rw[hY];rfl)
    ·intro w2 hS2;(try simp only[Keeps,Cells]at hS2);go_simp;with_reducible rfl
    simp only[zsZ]
   refine yX ?_ ?_
   ·skip
    apply zY (by rw[hY];rfl)
    ·go_simp;with_reducible exact⟨rfl,rfl⟩
    refine(zmW la hla _).mono ?_;rintro e v1 ⟨gc,rfl,rx,hbv10⟩;have hbv1:=zA hbv0 hbv10;clear hbv10;refine⟨_,rfl,⟨hbv1,kr.step hbv1⟩,?_⟩;simp only[zsZ]
    repeat
     apply zO (by rw[hY];rfl)
     ·intro w2 hS2;(try simp only[Keeps,Cells]at hS2);go_simp;with_reducible rfl
     simp only[zsZ]
    refine yX ?_ ?_
    ·skip
     apply zY (by rw[hY];rfl)
     ·go_simp;with_reducible exact⟨rfl,rfl⟩
     refine(ctx_all hG.out.g hp1.out (zgL la) (ctxL_lt hla) (hEsz _ hbv1) VK _ _ (hNE.out.step hbv1) rx).mono ?_;rintro e v2 ⟨V2,rfl,NS,hbv20⟩;have hbv2:=zA hbv1 hbv20;clear rx hbv20;refine⟨_,rfl,⟨hbv2,kr.step hbv2⟩,?_⟩;simp only[zsZ]
     repeat
      apply zO (by rw[hY];rfl)
      ·intro w2 hS2;(try simp only[Keeps,Cells]at hS2);go_simp;with_reducible rfl
      simp only[zsZ]
     have hbv30:Below v2.heap.size v2 (v2.alloc (.cells #[.slice none 0 0,.slice none 0 0,.slice none 0 0,.int .i64 0] 26)):=(zF _ _).alloc (zE _) _;have hbv3:=zA hbv2 hbv30;refine yF (by rw[hY];rfl) (by go_simp;first|with_reducible exact⟨rfl,rfl⟩|with_reducible rfl) ((show Below wr.heap.size wr (v2.alloc (.cells #[.slice none 0 0,.slice none 0 0,.slice none 0 0,.int .i64 0] 26))∧Blk (v2.alloc (.cells #[.slice none 0 0,.slice none 0 0,.slice none 0 0,.int .i64 0] 26)) w.heap.size VK 26 from⟨hbv3,kr.step hbv3⟩)) ?_;simp only[zsZ];have kN:=Blk.new v2 [.slice none 0 0,.slice none 0 0,.slice none 0 0,.int .i64 0] 26;have zN:wr.heap.size≤v2.heap.size:=hbv2.size;obtain⟨b11,hb11⟩:∃x,v2.heap.size=x:=⟨_,rfl⟩;have NS:=NS.grow (E':=(fun b=>(FP b∨b=w.heap.size∨b=w.heap.size+1)∨b=b11)) (KepX.below hbv30) (fun k hk h=>h.elim (fun h=>h) (fun h=>by omega));clear hbv30;rw[hb11]at kN zN⊢;obtain⟨v3,hv3⟩:∃v,(v2.alloc (.cells #[.slice none 0 0,.slice none 0 0,.slice none 0 0,.int .i64 0] 26))=v:=⟨_,rfl⟩;rw[hv3]at hbv3 kN NS⊢
     repeat
      apply zO (by rw[hY];rfl)
      ·intro w2 hS2;(try simp only[Keeps,Cells]at hS2);go_simp;with_reducible rfl
      simp only[zsZ]
     refine yQ 26 (.tmp 11) (.tmp 25) (by rfl) (by rw[hY];rfl) b11 (by rfl) V2 (by rfl) _ 26 kN (info_N.trans (yI some NS.len.symm)) NS.len.symm NS.one ?_;intro wS ES gS sS;have hbS:Below wr.heap.size wr wS:=hbv3.trans (yD gS zN hbv3.size);refine⟨⟨hbS,kr.step hbS⟩,?_⟩;simp only[zsZ];exact yP (fin _ _ _ wS hbS ES (NS.kep (KepX.row gS (fun b e=>.inl (.inr (zJ e).symm)))) zN)
    ·skip
     have hbv20:Below v1.heap.size v1 (v1.alloc (.cells #[.slice none 0 0,.slice none 0 0,.slice none 0 0,.int .i64 0] 26)):=(zF _ _).alloc (zE _) _;have hbv2:=zA hbv1 hbv20;refine yF (by rw[hY];rfl) (by go_simp;first|with_reducible exact⟨rfl,rfl⟩|with_reducible rfl) ((show Below wr.heap.size wr (v1.alloc (.cells #[.slice none 0 0,.slice none 0 0,.slice none 0 0,.int .i64 0] 26))∧Blk (v1.alloc (.cells #[.slice none 0 0,.slice none 0 0,.slice none 0 0,.int .i64 0] 26)) w.heap.size VK 26 from⟨hbv2,kr.step hbv2⟩)) ?_;simp only[zsZ];have rx:=rx.step hbv20;have kN:=Blk.new v1 [.slice none 0 0,.slice none 0 0,.slice none 0 0,.int .i64 0] 26;have zN:wr.heap.size≤v1.heap.size:=hbv1.size;obtain⟨b11,hb11⟩:∃x,v1.heap.size=x:=⟨_,rfl⟩;clear hbv20;rw[hb11]at kN zN⊢;obtain⟨v2,hv2⟩:∃v,(v1.alloc (.cells #[.slice none 0 0,.slice none 0 0,.slice none 0 0,.int .i64 0] 26))=v:=⟨_,rfl⟩;rw[hv2]at hbv2 kN rx⊢
     repeat
      apply zO (by rw[hY];rfl)
      ·intro w2 hS2;(try simp only[Keeps,Cells]at hS2);go_simp;with_reducible rfl
      simp only[zsZ]
     have NK:=hNE.out.grow (E':=(fun b=>(FP b∨b=w.heap.size∨b=w.heap.size+1)∨b=b11)) (KepX.below hbv2) (fun k hk h=>h.elim (fun h=>h) (fun h=>by omega));apply zY (by rw[hY];rfl)
     ·go_simp;with_reducible exact⟨rfl,rfl⟩
     refine(ctx_all hG.out.g hp1.out (zgL la) (ctxL_lt hla) (fun k h=>h.elim (hEsz _ hbv2 k) (fun h=>by have:=kN.lt;omega)) VK _ _ NK rx).mono ?_;rintro e v3 ⟨V2,rfl,NS,hbv30⟩;have hbv3:=zA hbv2 hbv30;have kN:=kN.step hbv30;clear rx hbv30;refine⟨_,rfl,⟨hbv3,kr.step hbv3⟩,?_⟩;simp only[zsZ]
     repeat
      apply zO (by rw[hY];rfl)
      ·intro w2 hS2;(try simp only[Keeps,Cells]at hS2);go_simp;with_reducible rfl
      simp only[zsZ]
     refine yQ 26 (.tmp 11) (.tmp 25) (by rfl) (by rw[hY];rfl) b11 (by rfl) V2 (by rfl) _ 26 kN (info_N.trans (yI some NS.len.symm)) NS.len.symm NS.one ?_;intro wS ES gS sS;have hbS:Below wr.heap.size wr wS:=hbv3.trans (yD gS zN hbv3.size);refine⟨⟨hbS,kr.step hbS⟩,?_⟩;simp only[zsZ];exact yP (fin _ _ _ wS hbS ES (NS.kep (KepX.row gS (fun b e=>.inl (.inr (zJ e).symm)))) zN)
   ·skip
    have hbv10:Below v0.heap.size v0 (v0.alloc (.cells #[.slice none 0 0,.slice none 0 0,.slice none 0 0,.int .i64 0] 26)):=(zF _ _).alloc (zE _) _;have hbv1:=zA hbv0 hbv10;refine yF (by rw[hY];rfl) (by go_simp;first|with_reducible exact⟨rfl,rfl⟩|with_reducible rfl) ((show Below wr.heap.size wr (v0.alloc (.cells #[.slice none 0 0,.slice none 0 0,.slice none 0 0,.int .i64 0] 26))∧Blk (v0.alloc (.cells #[.slice none 0 0,.slice none 0 0,.slice none 0 0,.int .i64 0] 26)) w.heap.size VK 26 from⟨hbv1,kr.step hbv1⟩)) ?_;simp only[zsZ];have kN:=Blk.new v0 [.slice none 0 0,.slice none 0 0,.slice none 0 0,.int .i64 0] 26;have zN:wr.heap.size≤v0.heap.size:=hbv0.size;obtain⟨b11,hb11⟩:∃x,v0.heap.size=x:=⟨_,rfl⟩;clear hbv10;rw[hb11]at kN zN⊢;obtain⟨v1,hv1⟩:∃v,(v0.alloc (.cells #[.slice none 0 0,.slice none 0 0,.slice none 0 0,.int .i64 0] 26))=v:=⟨_,rfl⟩;rw[hv1]at hbv1 kN⊢
    repeat
     apply zO (by rw[hY];rfl)
     ·intro w2 hS2;(try simp only[Keeps,Cells]at hS2);go_simp;with_reducible rfl
     simp only[zsZ]
    apply zY (by rw[hY];rfl)
    ·go_simp;with_reducible exact⟨rfl,rfl⟩
    refine(zmW la hla _).mono ?_;rintro e v2 ⟨gc,rfl,rx,hbv20⟩;have hbv2:=zA hbv1 hbv20;have kN:=kN.step hbv20;clear hbv20;refine⟨_,rfl,⟨hbv2,kr.step hbv2⟩,?_⟩;simp only[zsZ]
    repeat
     apply zO (by rw[hY];rfl)
     ·intro w2 hS2;(try simp only[Keeps,Cells]at hS2);go_simp;with_reducible rfl
     simp only[zsZ]
    have NK:=hNE.out.grow (E':=(fun b=>(FP b∨b=w.heap.size∨b=w.heap.size+1)∨b=b11)) (KepX.below hbv2) (fun k hk h=>h.elim (fun h=>h) (fun h=>by omega));apply zY (by rw[hY];rfl)
    ·go_simp;with_reducible exact⟨rfl,rfl⟩
    refine(ctx_all hG.out.g hp1.out (zgL la) (ctxL_lt hla) (fun k h=>h.elim (hEsz _ hbv2 k) (fun h=>by have:=kN.lt;omega)) VK _ _ NK rx).mono ?_;rintro e v3 ⟨V2,rfl,NS,hbv30⟩;have hbv3:=zA hbv2 hbv30;have kN:=kN.step hbv30;clear rx hbv30;refine⟨_,rfl,⟨hbv3,kr.step hbv3⟩,?_⟩;simp only[zsZ]
    repeat
     apply zO (by rw[hY];rfl)
     ·intro w2 hS2;(try simp only[Keeps,Cells]at hS2);go_simp;with_reducible rfl
     simp only[zsZ]
    refine yQ 26 (.tmp 11) (.tmp 25) (by rfl) (by rw[hY];rfl) b11 (by rfl) V2 (by rfl) _ 26 kN (info_N.trans (yI some NS.len.symm)) NS.len.symm NS.one ?_;intro wS ES gS sS;have hbS:Below wr.heap.size wr wS:=hbv3.trans (yD gS zN hbv3.size);refine⟨⟨hbS,kr.step hbS⟩,?_⟩;simp only[zsZ];exact yP (fin _ _ _ wS hbS ES (NS.kep (KepX.row gS (fun b e=>.inl (.inr (zJ e).symm)))) zN)
  ·obtain rfl:k=n:=by omega
   have hVKl:=zD hNE.out.len
   have q6:=zD (show hist ++ [Nk]=H0 by
    have h:=hH.out;rw[List.drop_of_length_le (by rw[Hn.out];exact zE _)]at h;exact h)
   clear hH;go_wp2_with fail;refine zaN 4 2 (.read 0 (.read 1 (.read 2 (.one 3 .done)))) _ _ o0P (fun K=>Blk K w.heap.size VK 26) (by kernel_rfl) (yH 4 _).symm (by kernel_rfl) (by kernel_rfl) (by kernel_rfl) (by kernel_rfl) (kr.drew) (fun Y Q4 F4 hY hF=> ?_);simp only[Plan.map,ltc,ltz,ldc,ldz,zcV,zdP]
   repeat
    apply zO (by rw[hY];rfl)
    ·intro w2 hS2;(try simp only[Keeps,Cells]at hS2);go_simp;with_reducible rfl
    simp only[zsZ]
   refine zO (by rw[hY];rfl) (fun w2 hS2=>zbJ 26 (.tmp 3) (by rfl) w.heap.size (by rfl) VK hS2.cells _ Tryz.underlying26 rfl (info_N.trans (yI some hVKl.out.symm))) ?_;simp only[zsZ]
   repeat
    apply zO (by rw[hY];rfl)
    ·intro w2 hS2;(try simp only[Keeps,Cells]at hS2);go_simp;with_reducible rfl
    simp only[zsZ]
   refine zO (by rw[hY];rfl) (fun w2 hS2=>zbJ 26 (.tmp 3) (by rfl) w.heap.size (by rfl) VK hS2.cells _ Tryz.underlying26 rfl (info_N.trans (yI some hVKl.out.symm))) ?_;simp only[zsZ]
   repeat
    apply zO (by rw[hY];rfl)
    ·intro w2 hS2;(try simp only[Keeps,Cells]at hS2);go_simp;with_reducible rfl
    simp only[zsZ]
   have hdb:Below wr.heap.size wr wr.drew:=(zF _ _).drew;apply zY (by rw[hY];rfl)
   ·go_simp;with_reducible exact⟨rfl,rfl⟩
   refine(HS.out.call hist FP _ Nk _ VK _ hG.out (hNE.out.step hdb) (HS.out.keep _ _ _ _ (fun _=>False) hRl.out (KepX.below hdb) (fun _ h=>h.elim)) (fun k h=>.inl h) (by have h:=yI List.length q6.out;rw[zaD]at h;have:=HHl.out;omega)).mono ?_;rintro e w5 ⟨F5,rfl,hR5,hk5',hs5'⟩;have hk5:KepX FP wr w5:=(KepX.below hdb).trans hk5';have hs5:∀k,F5 k→FP k∨wr.heap.size≤k:=hs5';have hl5:=hk5.size;have k5:=kr.kepX hk5 hnot.out.1;have r5:=rr.kepX hk5 hnot.out.2;have N5:=hNE.out.grow (E':=(fun b=>F5 b∨b=w.heap.size∨b=w.heap.size+1)) (hk5.mono (fun k _ h=>.inl h)) (fun k hk h=>h.elim (fun h=>(hs5 k h).elim .inl (fun h=>by omega)) .inr);have K5:=hKX.out.grow hk5 (fun k hk h=>(hsub.out k h).elim (fun h=>h) (fun h=>by omega));have S5:=zD (show∀k,F5 k→FP0 k∨w.heap.size≤k from fun k h=>(hs5 k h).elim (hsub.out k) (fun h=>.inr (by omega)));have n5:¬F5 (w.heap.size+1):=fun h=>(hs5 _ h).elim hnot.out.2 (fun h=>by omega);have VKo:=zD hNE.out.one;have HR5:=zD hR5;have HN5:=zD N5;have HK5:=zD K5;have Hn5:=zD n5;clear hk5 hs5 hk5' hs5' hR5 N5 K5 n5;refine⟨_,rfl,k5,?_⟩;simp only[zsZ];refine yP (hF _ _ (fun K2 hK2=> ?_));clear hF hY kr rr hNE hRl hKX hsub hnot;have HK2:=zD hK2;clear hK2;refine yC 26 (.tmp 6) (.tmp 55) (by rfl) (by rfl) (w.heap.size+1) (by rfl) VK (by rfl) _ 26 r5 (info_N.trans (yI some hVKl.out.symm)) hVKl.out.symm VKo.out ?_;intro wR ER gR sR;go_wp2_with fail;refine OnlyK.mk (HK2.out _ _ ?_);go_wp2_with fail;have hL:=run_loadVar_mid wR _ 0 _ _ _ ER.cells Tryz.underlying26 rfl (info_N.trans (yI some hVKl.out.symm));refine bodyPost_ret (v:=.tuple #[.agg VK.toArray,.bool true]) ?_ rfl ?_
   ·exact zaQ (show Tryz.f30.results = #[.cell 6 26,.tmp 7]from rfl) (p:=⟨w.heap.size+1,0,none⟩) rfl rfl hL
   ·exact⟨VK,Nk,F5,rfl,hG.out,hp1.out,(HN5.out.kep (KepX.row gR (fun b e=>.inl (.inr (.inr (zJ e).symm))))).mono (fun k _ h=>.inl h),q6.out▸HS.out.keep _ _ _ _ (fun b=>b=w.heap.size+1) HR5.out (KepX.row gR (fun b e=>.inl (zJ e).symm)) (fun b e=>⟨by omega,by rw[e];exact Hn5.out⟩),HK5.out.rowB gR (fun b e=>.inr (by have:=zJ e;omega)),S5.out⟩
def RelB(bx base:Nat)(ls:List (List Int))(FP:Nat→Prop)(w:World):Prop:=
 ∃(R:List Row13) (a:Option Addr) (cap:Nat),R.map Row13.l=ls∧Blk w bx [.slice a R.length cap] 70∧w.ownsRow base 39 1 (.slice a R.length cap) R.length (R.map Row13.head)∧
  (∀r∈R,Rd w r.a (zaF r.l)∧∃g o,r.a=some ⟨g,o,none⟩∧base≤g∧g<w.heap.size∧g≠bx∧(Value.slice a R.length cap).ownBlock≠some g)∧
  (∀j,FP j↔j=bx∨(Value.slice a R.length cap).ownBlock=some j∨∃r∈R,∃o,r.a=some ⟨j,o,none⟩)
theorem zjP{w:World}{base:Nat}{e:TypeId}{size n:Nat}{v:Value}{xs:List Value}(h:w.ownsRow base e size v n xs){g:Nat}(hg:v.ownBlock=some g):base≤g∧g<w.heap.size:=by
 obtain⟨h1,cur,h2⟩:=zcI h hg;exact⟨h1,(Array.getElem?_eq_some_iff.1 h2).1⟩
theorem RelB.lt{bx base:Nat}{ls:List (List Int)}{FP:Nat→Prop}{w:World}(h:RelB bx base ls FP w):∀j,FP j→j<w.heap.size:=by
 obtain⟨R,a,cap,_,hb,ho,hr,hF⟩:=h;intro j hj;rcases(hF j).1 hj with rfl|hj|⟨r,hm,o,e⟩
 ·exact hb.lt
 ·exact(zjP ho hj).2
 ·obtain⟨_,g,o',e',_,hl,_⟩:=hr r hm;rw[e]at e';cases e';exact hl
theorem RelB.ge{bx base:Nat}{ls:List (List Int)}{FP:Nat→Prop}{w:World}(h:RelB bx base ls FP w):∀j,FP j→j=bx∨base≤j:=by
 obtain⟨R,a,cap,_,hb,ho,hr,hF⟩:=h;intro j hj;rcases(hF j).1 hj with rfl|hj|⟨r,hm,o,e⟩
 ·exact .inl rfl
 ·exact .inr (zjP ho hj).1
 ·obtain⟨_,g,o',e',hl,_⟩:=hr r hm;rw[e]at e';cases e';exact .inr hl
theorem RelB.keep{bx base:Nat}{ls:List (List Int)}{FP X:Nat→Prop}{w w':World}(h:RelB bx base ls FP w)(hk:KepX X w w')(hx:∀j,X j→¬FP j):RelB bx base ls FP w':=by
 obtain⟨R,a,cap,e,hb,ho,hr,hF⟩:=h;refine⟨R,a,cap,e,hb.kepX hk (fun h=>hx _ h ((hF _).2 (.inl rfl))),zbZ ho hk (fun g hg h=>hx _ h ((hF _).2 (.inr (.inl hg)))),fun r hm=> ?_,hF⟩;obtain⟨h1,g,o,e',h2,h3,h4⟩:=hr r hm;refine⟨h1.kepX hk (fun g o e h=>hx _ h ((hF _).2 (.inr (.inr ⟨r,hm,o,e⟩)))),g,o,e',h2,zaY h3 hk.size,h4⟩
theorem RelB.nil(w:World)(bx base:Nat)(h:Blk w bx [.slice none 0 0] 70):RelB bx base [] (fun j=>j=bx) w:=
 ⟨[],none,0,rfl,h,World.ownsRow_nil _ _ _ _,by simp,fun j=>by simp[Value.ownBlock]⟩
theorem RelB.snoc{bx base n cap cap' g o:Nat}{R:List Row13}{a a':Option Addr}{FP:Nat→Prop}{w w2 w4 w5 w6:World}{r:Row13}(hn:R.length=n)
 (hb:Blk w bx [.slice a n cap] 70) (ho:w.ownsRow base 39 1 (.slice a n cap) n (R.map Row13.head))
 (hr:∀r∈R,Rd w r.a (zaF r.l)∧∃g o,r.a=some ⟨g,o,none⟩∧base≤g∧g<w.heap.size∧g≠bx∧(Value.slice a n cap).ownBlock≠some g)
 (hF:∀j,FP j↔j=bx∨(Value.slice a n cap).ownBlock=some j∨∃r∈R,∃o,r.a=some ⟨j,o,none⟩)
 (hbase:base≤w.heap.size) (h2:Below w.heap.size w w2) (hk:Rd w2 r.a (zaF r.l)) (hra:r.a=some ⟨g,o,none⟩) (hg:w.heap.size≤g) (hg2:g<w2.heap.size) (h4:Below w2.heap.size w2 w4)
 (ho5:w5.ownsRow base 39 1 (.slice a' (n+1) cap') (n+1) (R.map Row13.head ++ [r.head])) (h5:w4.grownBy w5 (Value.slice a n cap).ownBlock)
 (hat:(Value.slice a' (n+1) cap').ownBlock=(Value.slice a n cap).ownBlock∨(Value.slice a' (n+1) cap').ownBlock=some w4.heap.size)
 (hb6:Blk w6 bx [.slice a' (n+1) cap'] 70) (h6:w5.grownBy w6 (some bx)) :
 ∃FP',RelB bx base (R.map Row13.l ++ [r.l]) FP' w6∧KepX FP w w6∧∀k,FP' k→FP k∨w.heap.size≤k:=by
 have hbx:=hb.lt;have z2:=h2.size;have z4:=h4.size;have z5:=h5.size;have z6:=h6.size;have hap:=zaV ho hb (by decide);have K4:KepX (fun j=>j=bx∨(Value.slice a n cap).ownBlock=some j) w w4:=(KepX.below h2).trans (KepX.below h4);have K5:=K4.rowB h5 (fun b e=>.inl (.inr e));have K6:=K5.rowB h6 (fun b e=>.inl (.inl (zJ e).symm));have L4:KepX (fun j=>j=bx∨(Value.slice a n cap).ownBlock=some j) w2 w4:=KepX.below h4;have L5:=L4.rowB h5 (fun b e=>.inl (.inr e));have L6:=L5.rowB h6 (fun b e=>.inl (.inl (zJ e).symm));have M6:KepX (fun j=>j=bx) w5 w6:=KepX.row h6 (fun b e=>.inl (zJ e).symm);have hol:∀j,(Value.slice a n cap).ownBlock=some j→j<w.heap.size:=fun j e=>(zjP ho e).2;have hl:(R ++ [r]).length=n+1:=by rw[zaD,hn];rfl
 refine⟨fun j=>j=bx∨(Value.slice a' (n+1) cap').ownBlock=some j∨∃q∈R ++ [r],∃o,q.a=some ⟨j,o,none⟩,⟨R ++ [r],a',cap',by rw[List.map_append];rfl,by rw[hl];exact hb6,?_,?_,fun j=>by rw[hl]⟩,
  K6.mono (fun k _ h=>(hF k).2 (h.elim .inl (fun h=>.inr (.inl h)))),?_⟩
 ·rw[hl,List.map_append];refine zbZ ho5 M6 (fun q hq e=> ?_);rw[e]at hq;rcases hat with hat|hat
  ·exact hap (hat.symm.trans hq)
  ·rw[hat]at hq;have:=zJ hq;omega
 ·intro q hq;rw[hl];rcases List.mem_append.1 hq with hq|hq
  ·obtain⟨k1,g1,o1,e1,k2,k3,k4,k5⟩:=hr q hq;refine⟨k1.kepX K6 (fun g2 o2 e2 h=> ?_),g1,o1,e1,k2,by omega,k4,?_⟩
   ·rw[e1]at e2;cases e2;exact h.elim k4 k5
   ·rcases hat with hat|hat
    ·rw[hat];exact k5
    ·rw[hat];intro e;have:=zJ e;omega
  ·rw[List.mem_singleton.1 hq];refine⟨hk.kepX L6 (fun g2 o2 e2 h=> ?_),g,o,hra,by omega,by omega,by omega,?_⟩
   ·rw[hra]at e2;cases e2;rcases h with h|h
    ·omega
    ·have:=hol _ h;omega
   ·rcases hat with hat|hat
    ·rw[hat];intro e;have:=hol _ e;omega
    ·rw[hat];intro e;have:=zJ e;omega
 ·rintro k (h|h|⟨q,hq,o2,h⟩)
  ·exact .inl ((hF k).2 (.inl h))
  ·rcases hat with hat|hat
   ·exact .inl ((hF k).2 (.inr (.inl (hat.symm.trans h))))
   ·rw[hat]at h;have:=zJ h;exact .inr (by omega)
  ·rcases List.mem_append.1 hq with hq|hq
   ·exact .inl ((hF k).2 (.inr (.inr ⟨q,hq,o2,h⟩)))
   ·rw[List.mem_singleton.1 hq,hra]at h;cases h;exact .inr hg
theorem op_append_at{P:Program}{w:World}{o:Oper}{a:Act}(s x:Operand)(t e:TypeId)(size bytes:Nat)(zc:List Value)(base:Nat)
 (he:Elems P t e size bytes zc) (ho:o.op = .call {callee:=.builtin .append,args:=#[s,x],argTypes:=#[t,t]})
 (v:Value) (n:Nat) (xs:List Value) (hs:a.eval s=v) (hown:w.ownsRow base e size v n xs)
 (ad:Addr) (m cap:Nat) (news:List Value) (hx:a.eval x = .slice (some ad) m cap) (hl:news.length=m*size) (hnews:Rd w (some ad) news) (h1:∀u∈news,u.oneCell'=true)
 (h63:n+m≤maxLen) (hbytes:(n+m)*bytes≤140737488355328) (hbase:base≤w.heap.size) :
 ∃a' cap' w',(execOp a.eval o).run P w = .ok (.value (.slice a' (n+m) cap')) w'∧w'.ownsRow base e size (.slice a' (n+m) cap') (n+m) (xs++news)∧w.grownBy w' v.ownBlock∧
  ((Value.slice a' (n+m) cap').ownBlock=v.ownBlock∨(Value.slice a' (n+m) cap').ownBlock=some w.heap.size):=by
 obtain⟨i,z,hi,hz,hsz,hby,hzs,hzc⟩:=he.open;have hnews':∀j u,news[j]? = some u→w.cell? (ad.add j)=some u:=by
  intro j u hu;obtain⟨b,off,e1,hr⟩:=hnews (fun e=>by rw[e]at hu;simp at hu);cases e1;rw[Addr.add_mid];exact hr j u hu
 obtain⟨v',w',hr,h2,h3,h4,h5⟩:=run_append_own_at (P:=P) w base t o.type e i z size bytes he.1 hi hz hsz hby hzs he.2.2.2 v n xs hown ad m cap news hl hnews' h1 h63 hbytes hbase;obtain⟨a',cap',rfl,_⟩:=zaZ h2;refine⟨a',cap',w',?_,h2,h3,h5⟩;unfold execOp;simp only[ho,resolve,invoke,builtin,Sem.run_bind,Sem.run_pure,Result.andThen_ok,List.map_toArray,lmc,lmn,hs,hx,hr]
theorem znT{P:Program}{Y:Array Value→Nat→Option Bool}{Q:Exit→Act→World→Prop}{S:World→Prop}{G:Act→World→Prop}{w:World}{rest:List (Bool×Oper)}{o:Oper}{a:Act}(s x:Operand)(t e:TypeId)(size bytes:Nat)(zc:List Value)(base:Nat)(he:Elems P t e size bytes zc)
 (v:Value) (n:Nat) (xs:List Value) (ad:Addr) (m cap:Nat) (news:List Value) (hw:Region.wanted o (Y a.tmps)=true)
 (ho:o.op = .call {callee:=.builtin .append,args:=#[s,x],argTypes:=#[t,t]}) (hs:a.eval s=v) (hx:a.eval x = .slice (some ad) m cap)
 (hl:news.length=m*size) (h1:∀u∈news,u.oneCell'=true) (h63:n+m≤maxLen) (hbytes:(n+m)*bytes≤140737488355328)
 (hown:w.ownsRow base e size v n xs) (hnews:Rd w (some ad) news) (hbase:base≤w.heap.size)
 (h:∀a' cap' w',w'.ownsRow base e size (.slice a' (n+m) cap') (n+m) (xs++news)→w.grownBy w' v.ownBlock→
   ((Value.slice a' (n+m) cap').ownBlock=v.ownBlock∨(Value.slice a' (n+m) cap').ownBlock=some w.heap.size)→S w'∧zcK P Y Q S G rest (a.put o.dst (.slice a' (n+m) cap')) w'):zcK P Y Q S G ((false,o)::rest) a w:=by
 obtain⟨a',cap',w',r1,r2,r3,r4⟩:=op_append_at (P:=P) (w:=w) s x t e size bytes zc base he ho v n xs hs hown ad m cap news hx hl hnews h1 h63 hbytes hbase;obtain⟨h4,h5⟩:=h a' cap' w' r2 r3 r4;exact zbO hw r1 h4 h5
theorem zoT(O:Nat→List Int→Int):∀n k,k≤n→(S14.outs O n).take k=S14.outs O k
 | 0,k,h=>by
   obtain rfl:k=0:=by omega
   rfl
 | n+1,k,h=>by
   by_cases hk:k=n+1
   ·subst hk;rw[zdO (by rw[S14.outs_length];exact zE _)]
   ·rw[S14.outs,List.take_append_of_le_length (by rw[S14.outs_length];omega)];exact zoT O n k (by omega)
theorem begun2_call(l:List S14.C)(bx base:Nat)(ls:List (List Int))(E FP:Nat→Prop)(N:S14.N)(t:Nat)(VS:List Value)(w:World)(hg:GoodC l N t)(hV:NetE E N VS w)(hR:RelB bx base ls FP w)(hbase:base≤w.heap.size)(hls:ls.length≤4000) :
 Calls Tryz.prog 39 #[.agg VS.toArray,.pointer (some ⟨bx,0,none⟩)] w fun e w'=>∃FP',e = .returned (.bool true)∧RelB bx base (ls ++ [S14.outs (S14.outA N) l.length]) FP' w'∧KepX FP w w'∧∀k,FP' k→FP k∨w.heap.size≤k:=by
 have HO:=zD fun(W:World) (hW:Below w.heap.size w W)=>outs_all hg.g VS W (hV.step hW);have hVl:=zD hV.len;have hVo:=zD hV.one;rw[hg.c]at HO;obtain⟨os,hos⟩:∃x,S14.outs (S14.outA N) l.length=x:=⟨_,rfl⟩;have hol:os.length=l.length:=by rw[←hos,S14.outs_length]
 have h1l:=(S14.check_zero (hg.c▸hg.g.check)).1;rw[hos]at HO⊢;obtain⟨n,hn⟩:∃n,l.length=n:=⟨_,rfl⟩;rw[hn]at HO hol h1l;clear hV hg hos hn;obtain⟨R,a,cap,rfl,hb,ho,hr,hF⟩:=hR;rw[yJ]at hls;obtain⟨m,hm⟩:∃m,R.length=m:=⟨_,rfl⟩;rw[hm]at hb ho hr hF hls;obtain⟨b1,eb1⟩:∃b,w.heap.size=b:=⟨_,rfl⟩;obtain⟨a1,ea1⟩:∃W,w.alloc (.cells VS.toArray 26)=W:=⟨_,rfl⟩;have F1:Blk a1 b1 VS 26:=by rw[←ea1,←eb1];exact Blk.new w _ _
 have ba1:Below w.heap.size w a1:=by rw[←ea1];exact(zF _ _).alloc (zE _) _
 have Hb:=zD hb;have Ho:=zD ho;have Hr:=zD hr;have HF:=zD hF;have Hm:=zD hm;have hbw:=hb.lt;clear hb ho hr hF hm;go_enter Tryz.func39,Tryz.ntmps39;go_wp2_with (first
  | (rw[ea1,eb1])
  | (rw[ea1])
  | (refine yE 26 (.tmp 2) (by rfl) (by rfl) b1 (by rfl) VS 26 F1 _ Tryz.underlying26 rfl (info_N.trans (yI some hVl.out.symm)) ?_))
 refine(HO.out _ ba1).mono ?_;rintro e w2 ⟨ao,co,rfl,rdo,hfar,hcap,hb2⟩;have B2:=zA ba1 hb2;obtain⟨g,o,rfl,hcs⟩:=rdo (fun e=>by have h1:=yI List.length e;rw[yO,hol]at h1;simp at h1;omega);have hg2:g<w2.heap.size:=zL (hcs 0 (.int .i64 (os[0]'(by omega))) (by simp[zaF]));have hg1:=hfar g o rfl;have z1:=ba1.size;have kb2:=Hb.out.step B2;have c2:=kb2.cell 0;simp only[lgz]at c2;have own4:=(yU (B:=0) Ho.out B2).alloc (Obj.cells #[.slice (some ⟨g,o,none⟩) n co] 39);have kb4:=kb2.alloc (Obj.cells #[.slice (some ⟨g,o,none⟩) n co] 39);have b42:Below w2.heap.size w2 (w2.alloc (Obj.cells #[.slice (some ⟨g,o,none⟩) n co] 39)):=(zF _ _).alloc (zE _) _;have z2:=B2.size;have Hown4:=zD own4;have Hkb4:=zD kb4;have Hrd:=zD rdo;have Hb42:=zD b42;have HB2:=zD B2;clear rdo hfar hcs hb2 F1 ea1 eb1 ba1 own4 kb4 kb2 b42 B2 HO;go_wp2_with (at_builtin;refine zeT (.tmp 11) (.tmp 13) 70 39 1 24 _ base zhX rfl rfl (.slice a m cap) m (R.map Row13.head) rfl Hown4.out (some ⟨w2.heap.size,0,none⟩) 1 1 [.slice (some ⟨g,o,none⟩) n co] rfl rfl (Rd.new w2 [.slice (some ⟨g,o,none⟩) n co] 39) (by simp[Value.oneCell']) (by unfold maxLen;omega) (by omega) (by simp;omega) ?_;intro a5 cap5 w5 own5 grow5 at5;have kb5:=Hkb4.out.grown grow5 (Ne.symm (zaV Hown4.out Hkb4.out (by decide)));have c5:=kb5.cell 0;have f5:=kb5.free 0;have Hkb5:=zD kb5;have Hown5:=zD own5;have Hgrow5:=zD grow5;have Hat5:=zD at5;clear kb5 own5 grow5 at5;simp only[lgz]at c5);go_returns;have hd:Row13.head ⟨some ⟨g,o,none⟩,co,os⟩ = .slice (some ⟨g,o,none⟩) n co:=by unfold Row13.head;rw[hol]
 obtain⟨FP',h1,h2,h3⟩:=RelB.snoc (r:=⟨some ⟨g,o,none⟩,co,os⟩) Hm.out Hb.out Ho.out Hr.out HF.out hbase HB2.out Hrd.out rfl (by omega) hg2 Hb42.out (by rw[hd];exact Hown5.out) Hgrow5.out Hat5.out (Hkb5.out.set 0 (.slice a5 (m+1) cap5)) (zaR w5 bx 0 _);exact⟨FP',rfl,h1,h2,h3⟩
theorem shownB2(l:List S14.C)(bx base D:Nat)(hD:base≤D):Shown l D 39 (fun x=>x ++ #[.pointer (some ⟨bx,0,none⟩)]) (fun hist FP w=>D≤w.heap.size∧RelB bx base (hist.map fun N=>S14.outs (S14.outA N) l.length) FP w) where
 lt:=fun _ _ _ h=>h.2.lt
 keep:=fun _ _ _ _ _ h hk hx=>⟨zZ h.1 hk.size,h.2.keep hk (fun j hj=>(hx j hj).2)⟩
 call:=fun hist FP E N t VS w hg hV hR _ hl=>(begun2_call l bx base _ E FP N t VS w hg hV hR.2 (zZ hD hR.1) (by rw[yJ];exact hl)).mono fun e w' ⟨FP',h1,h2,h3,h4⟩=>⟨FP',h1,⟨zZ hR.1 h3.size,by rw[List.map_append];exact h2⟩,h3,h4⟩
theorem begun1_call(l:List S14.C)(k:Nat)(hk1:1≤k)(hkl:k≤l.length)(bx bk bl base:Nat)(al:Option Addr)(capl:Nat)(ls:List (List Int))(E FP:Nat→Prop)(N:S14.N)(t:Nat)(VS:List Value)(w:World)(hg:GoodC l N t)(hV:NetE E N VS w)(hR:RelB bx base ls FP w)
 (hbk:Blk w bk [.int .i64 (k:Int)] 3) (hbl:Blk w bl [.slice al l.length capl] 22) (hbase:base≤w.heap.size) (hks:bk<base) (hls:ls.length≤4000) :
 Calls Tryz.prog 38 #[.agg VS.toArray,.pointer (some ⟨bx,0,none⟩),.pointer (some ⟨bk,0,none⟩),.pointer (some ⟨bl,0,none⟩)] w fun e w'=>∃FP',e = .returned (.bool true)∧RelB bx base (ls ++ [S14.outs (S14.outA N) k]) FP' w'∧KepX FP w w'∧∀k,FP' k→FP k∨w.heap.size≤k:=by
 have HO:=zD fun(W:World) (hW:Below w.heap.size w W)=>outs_all hg.g VS W (hV.step hW);have hVl:=zD hV.len;have hVo:=zD hV.one;rw[hg.c]at HO;have hol:(S14.outs (S14.outA N) l.length).length=l.length:=S14.outs_length _ _;have hot:=zoT (S14.outA N) l.length k hkl;obtain⟨os,hos⟩:∃x,S14.outs (S14.outA N) l.length=x:=⟨_,rfl⟩;obtain⟨ok,hok⟩:∃x,S14.outs (S14.outA N) k=x:=⟨_,rfl⟩;have hkl2:ok.length=k:=by rw[←hok,S14.outs_length]
 rw[hos]at HO hol hot;rw[hok]at hot⊢;obtain⟨n,hn⟩:∃n,l.length=n:=⟨_,rfl⟩;rw[hn]at HO hol hkl hbl;clear hV hg hos hn hok;obtain⟨R,a,cap,rfl,hb,ho,hr,hF⟩:=hR;rw[yJ]at hls;obtain⟨m,hm⟩:∃m,R.length=m:=⟨_,rfl⟩;rw[hm]at hb ho hr hF hls;obtain⟨b1,eb1⟩:∃b,w.heap.size=b:=⟨_,rfl⟩;obtain⟨a1,ea1⟩:∃W,w.alloc (.cells VS.toArray 26)=W:=⟨_,rfl⟩;have F1:Blk a1 b1 VS 26:=by rw[←ea1,←eb1];exact Blk.new w _ _
 have ba1:Below w.heap.size w a1:=by rw[←ea1];exact(zF _ _).alloc (zE _) _
 have hkx:¬bk=bx:=by
  rintro rfl;unfold Blk at hb hbk;rw[hb]at hbk;simp at hbk
 have hlx:¬bl=bx:=by
  rintro rfl;unfold Blk at hb hbl;rw[hb]at hbl;simp at hbl
 have Hb:=zD hb;have Ho:=zD ho;have Hr:=zD hr;have HF:=zD hF;have Hm:=zD hm;have Hbk:=zD hbk;have Hbl:=zD hbl;have Hot:=zD hot;have hbw:=hb.lt;clear hb ho hr hF hm hbk hbl hot;go_enter Tryz.func38,Tryz.ntmps38;go_wp2_with (first
  | (rw[ea1,eb1])
  | (rw[ea1])
  | (refine yE 26 (.tmp 4) (by rfl) (by rfl) b1 (by rfl) VS 26 F1 _ Tryz.underlying26 rfl (info_N.trans (yI some hVl.out.symm)) ?_))
 refine(HO.out _ ba1).mono ?_;rintro e w2 ⟨ao,co,rfl,rdo,hfar,hcap,hb2⟩;have B2:=zA ba1 hb2;obtain⟨g,o,rfl,hcs⟩:=rdo (fun e=>by have h1:=yI List.length e;rw[yO,hol]at h1;simp at h1;omega);have hg2:g<w2.heap.size:=zL (hcs 0 (.int .i64 (os[0]'(by omega))) (by simp[zaF]));have hg1:=hfar g o rfl;have z1:=ba1.size;have z2:=B2.size;have kb2:=Hb.out.step B2;have kk2:=Hbk.out.step B2;have kl2:=Hbl.out.step B2;have c2:=kb2.cell 0;have ck2:=kk2.cell 0;simp only[lgz]at c2 ck2;have own4:=(yU (B:=0) Ho.out B2).drew.alloc (Obj.cells #[.slice (some ⟨g,o,none⟩) k co] 39);have kb4:=kb2.drew.alloc (Obj.cells #[.slice (some ⟨g,o,none⟩) k co] 39);have kk4:=kk2.drew.alloc (Obj.cells #[.slice (some ⟨g,o,none⟩) k co] 39);have kl4:=kl2.drew.alloc (Obj.cells #[.slice (some ⟨g,o,none⟩) k co] 39);have b42:Below w2.heap.size w2 (w2.drew.alloc (Obj.cells #[.slice (some ⟨g,o,none⟩) k co] 39)):=(zF _ _).drew.alloc (zE _) _;have Hown4:=zD own4;have Hkb4:=zD kb4;have Hkk4:=zD kk4;have Hkl4:=zD kl4
 have Hrd:=zD (show Rd w2 (some ⟨g,o,none⟩) (zaF ok)from fun _=>⟨g,o,rfl,fun j v hv=>hcs j v (by
  rw[←Hot.out]at hv;unfold zaF at hv⊢;rw[List.map_take,yY]at hv;split at hv
  ·exact hv
  ·cases hv)⟩)
 have Hb42:=zD b42;have HB2:=zD B2;have hmin:min (k:Int) (n:Int)=(k:Int):=by omega
 have hkc:(k:Int)≤(co:Int):=by omega
 clear rdo hfar hcs hb2 F1 ea1 eb1 ba1 own4 kb4 kb2 kk2 kk4 kl2 kl4 b42 B2 HO;go_wp2_with fail;refine ztC 9 1 [(U,[U,U,U,U,U,U,U]),(zsY,[zsY,zsY,zsY,zsY,zsY,zsY,zsY,U]),(zsY,[zsY,zsY,zsY,zsY,zsY,zsY,zsY,zsY,U])] (fun K=>Cells K [(⟨bx,0,none⟩,.slice a m cap),(⟨bk,0,none⟩,.int .i64 (k:Int))]) (by kernel_rfl) (⟨c2,ck2,yK⟩) (fun Y Q4 F4 hY hF=> ?_);simp only[ztA]
 repeat
  apply zK (by rw[hY];rfl)
  ·intro w2 hS2;(try simp only[Keeps,Cells]at hS2);go_simp;with_reducible rfl
  simp only[zsZ]
 have c4:=Hkb4.out.cell 0;have ck4:=Hkk4.out.cell 0;simp only[lgz]at c4 ck4;refine zbO (by rw[hY];rfl) (by go_simp;first|with_reducible exact⟨rfl,rfl⟩|with_reducible rfl) ((show Cells (w2.drew.alloc (Obj.cells #[.slice (some ⟨g,o,none⟩) k co] 39)) [(⟨bx,0,none⟩,.slice a m cap),(⟨bk,0,none⟩,.int .i64 (k:Int))]from⟨c4,ck4,yK⟩)) ?_;simp only[zsZ];refine znT (.tmp 13) (.tmp 20) 70 39 1 24 _ base zhX (.slice a m cap) m (R.map Row13.head) ⟨w2.heap.size,0,none⟩ 1 1 [.slice (some ⟨g,o,none⟩) k co] (by rw[hY];rfl) rfl rfl rfl rfl (by simp[Value.oneCell']) (by unfold maxLen;omega) (by omega) Hown4.out (Rd.new w2.drew [.slice (some ⟨g,o,none⟩) k co] 39) (by simp;omega) ?_;intro a5 cap5 w5 own5 grow5 at5;have kb5:=Hkb4.out.grown grow5 (Ne.symm (zaV Hown4.out Hkb4.out (by decide)));have kk5:=Hkk4.out.grown grow5 (fun e=>by have:=(zjP Ho.out e.symm).1;omega);have kl5:=Hkl4.out.grown grow5 (Ne.symm (zaV Hown4.out Hkl4.out (by decide)));have c5:=kb5.cell 0;have ck5:=kk5.cell 0;have f5:=kb5.free 0;have cl5:=(kl5.other bx 0 (.slice a5 (m+1) cap5) hlx).cell 0;have Hkb5:=zD kb5;have Hown5:=zD own5;have Hgrow5:=zD grow5;have Hat5:=zD at5;clear kb5 kk5 kl5 own5 grow5 at5;simp only[lgz]at c5 ck5 cl5;refine⟨⟨c5,ck5,yK⟩,?_⟩;simp only[zsZ];refine yL (hF.out _ _ (fun K hK=> ?_));clear hF hY;simp only[ldc,ldz];go_wp2_with fail;refine OnlyK.mk (hK.out _ _ ?_);clear hK;go_wp2;go_returns;have hd:Row13.head ⟨some ⟨g,o,none⟩,co,ok⟩ = .slice (some ⟨g,o,none⟩) k co:=by unfold Row13.head;rw[hkl2]
 obtain⟨FP',h1,h2,h3⟩:=RelB.snoc (r:=⟨some ⟨g,o,none⟩,co,ok⟩) Hm.out Hb.out Ho.out Hr.out HF.out hbase HB2.out Hrd.out rfl (by omega) hg2 Hb42.out (by rw[hd];exact Hown5.out) Hgrow5.out Hat5.out (Hkb5.out.set 0 (.slice a5 (m+1) cap5)) (zaR w5 bx 0 _);exact⟨FP',rfl,h1,h2,h3⟩
theorem shownB1(l:List S14.C)(k:Nat)(hk1:1≤k)(hkl:k≤l.length)(bx bk bl base D:Nat)(al:Option Addr)(capl:Nat)(hD:base≤D)(hk:bk<base)(hl:bl<base)(hkx:¬bk=bx)(hlx:¬bl=bx) :
 Shown l D 38 (fun x=>x ++ #[.pointer (some ⟨bx,0,none⟩),.pointer (some ⟨bk,0,none⟩),.pointer (some ⟨bl,0,none⟩)])
  (fun hist FP w=>D≤w.heap.size∧Blk w bk [.int .i64 (k:Int)] 3∧Blk w bl [.slice al l.length capl] 22∧RelB bx base (hist.map fun N=>S14.outs (S14.outA N) k) FP w) where
 lt:=fun _ _ _ h=>h.2.2.2.lt
 keep:=fun _ _ _ _ X h hX hx=>⟨zZ h.1 hX.size,h.2.1.kepX hX (fun h=>by have:=(hx _ h).1;omega),h.2.2.1.kepX hX (fun h=>by have:=(hx _ h).1;omega),h.2.2.2.keep hX (fun j hj=>(hx j hj).2)⟩
 call:=fun hist FP E N t VS w hg hV hR _ hln=>(begun1_call l k hk1 hkl bx bk bl base al capl _ E FP N t VS w hg hV hR.2.2.2 hR.2.1 hR.2.2.1 (zZ hD hR.1) hk (by rw[yJ];exact hln)).mono fun e w' ⟨FP',h1,h2,h3,h4⟩=>
  ⟨FP',h1,⟨zZ hR.1 h3.size,hR.2.1.kepX h3 (fun h=>(hR.2.2.2.ge _ h).elim hkx (fun h=>by omega)),hR.2.2.1.kepX h3 (fun h=>(hR.2.2.2.ge _ h).elim hlx (fun h=>by omega)),by rw[List.map_append];exact h2⟩,h3,h4⟩
structure Pre(k:Nat)(N N':S14.N):Prop where
 comps:N'.comps=N.comps.take k
 parts:N'.parts=N.parts.take k
 ctxs:N'.ctxs=N.ctxs
 part:N'.part=N.part
theorem zgJ{α:Type}{l:List α}{j k:Nat}{d:α}(h:j<k):(l.take k).getD j d=l.getD j d:=by
 rw[zR,zR,yY,zQ h]
theorem Pre.at_{k:Nat}{N N':S14.N}(h:Pre k N N')(j:Nat)(c:S14.C):S14.at_ N' j c=S14.at_ N j c:=by
 unfold S14.at_;rw[h.ctxs,h.part]
theorem Pre.outA{k:Nat}{N N':S14.N}(h:Pre k N N'){j:Nat}(hj:j<k)(bef:List Int):S14.outA N' j bef=S14.outA N j bef:=by
 unfold S14.outA S14.outB;rw[h.comps,h.parts,zgJ hj,zgJ hj,h.at_,h.part]
theorem Pre.outs{k:Nat}{N N':S14.N}(h:Pre k N N'):∀j,j≤k→S14.outs (S14.outA N') j=S14.outs (S14.outA N) j
 | 0,_=>rfl
 | j+1,hj=>by
   rw[S14.outs,S14.outs,h.outs j (by omega),h.outA (by omega)]
theorem Pre.learnA{k:Nat}{N N':S14.N}(h:Pre k N N')(bit:Int){j:Nat}(hj:j<k):S14.learnA N' bit j=S14.learnA N bit j:=by
 unfold S14.learnA S14.learnP S14.seen S14.st;rw[h.comps,h.parts,zgJ hj,zgJ hj,h.at_,h.part,h.outs j (by omega)]
theorem Pre.learned{k:Nat}{N N':S14.N}(h:Pre k N N')(hk:k≤N.comps.length)(hp:N.parts.length=N.comps.length)(bit:Int):Pre k (S14.learned N bit) (S14.learned N' bit) where
 comps:=h.comps
 parts:=by
  show S14.parts1 (S14.learnA N' bit) N'.parts N'.comps.length=(S14.parts1 (S14.learnA N bit) N.parts N.comps.length).take k;have hl':N'.comps.length=k:=by rw[h.comps,yR];omega
  have hp':N'.parts.length=k:=by rw[h.parts,yR];omega
  apply List.ext_getElem?;intro j;rw[zhV,yY,zhV,hl',hp'];by_cases hj:j<k
  ·rw[zQ ⟨hj,hj⟩,zQ hj,zQ ⟨by omega,by omega⟩,h.learnA bit hj]
  ·rw[zI (by omega),zI hj,yW (by omega)]
 ctxs:=h.ctxs
 part:=by show S14.next N'.part bit=S14.next N.part bit;rw[h.part]
theorem Pre.open1{k:Nat}{N N':S14.N}(h:Pre k N N')(j:Nat)(p:S14.P):S14.open1 N' j p=S14.open1 N j p:=by
 have e:S14.hash (N'.ctxs.getD j 0) N'.part.toNat=S14.hash (N.ctxs.getD j 0) N.part.toNat:=congr (yI S14.hash (yI (fun l:List Nat=>l.getD j 0) h.ctxs)) (yI Int.toNat h.part);exact yI (fun x:Nat=>({p with sb:=S10.openB p.sb p.sd,sd:=S10.openX p.sb p.sd x,slot:=((S10.openN p.sb p.sd x:Nat):Int)}:S14.P)) e
theorem Pre.openP{k:Nat}{N N':S14.N}(h:Pre k N N'){j:Nat}(hj:j<k)(p:S14.P):S14.openP N' j p=S14.openP N j p:=by
 have e:N'.comps[j]? = N.comps[j]? :=by rw[h.comps,yY,zQ hj]
 unfold S14.openP;rw[e,h.open1]
theorem Pre.opened{k:Nat}{N N':S14.N}(h:Pre k N N')(hk:k≤N.comps.length):Pre k (S14.opened N) (S14.opened N') where
 comps:=h.comps
 parts:=by
  show S14.openK N' N'.comps.length=(S14.openK N N.comps.length).take k;have hl':N'.comps.length=k:=by rw[h.comps,yR];omega
  apply List.ext_getElem?;intro j;rw[zjR,yY,zjR,hl',h.parts,yY];by_cases hj:j<k
  ·rw[zQ hj,zQ hj,zQ hj,zQ (by omega)];cases N.parts[j]? with
   | none=>rw[Option.map_none,Option.map_none]
   | some p=>rw[Option.map_some,Option.map_some,h.openP hj p]
  ·rw[zI hj,zI hj,zI hj]
 ctxs:=h.ctxs
 part:=h.part
theorem Pre.learnN{k:Nat}{N N':S14.N}(h:Pre k N N')(hk:k≤N.comps.length)(hp:N.parts.length=N.comps.length)(bit:Int):Pre k (S14.learnN N bit) (S14.learnN N' bit):=by
 have hL:=h.learned hk hp bit;unfold S14.learnN;rw[h.part];split
 ·exact hL.opened hk
 ·exact hL
theorem Pre.ev{k:Nat}{N N':S14.N}(h:Pre k N N')(hk:k≤N.comps.length)(hp:N.parts.length=N.comps.length):∀e,Pre k (S14.ev N e) (S14.ev N' e)
 | .ctx la=>Pre.opened (N:=S14.withCtxs N (ctxL la)) (N':=S14.withCtxs N' (ctxL la)) ⟨h.comps,h.parts,rfl,h.part⟩ hk
 | .bit b=>h.learnN hk hp b
theorem Pre.new{l:List S14.C}{k:Nat}:Pre k (S14.newN l) (S14.newN (l.take k)):=⟨rfl,List.map_take.symm▸rfl,rfl,rfl⟩
theorem ev_comps(N:S14.N):∀e,(S14.ev N e).comps=N.comps
 | .ctx _=>rfl
 | .bit b=>zmV N b
theorem learnN_parts(N:S14.N)(b:Int):(S14.learnN N b).parts.length=N.parts.length:=by
 unfold S14.learnN;split
 ·show(S14.openK _ _).length=_;rw[S14.openK_length];exact S14.parts1_length _ _ _
 ·exact S14.parts1_length _ _ _
theorem ev_parts(N:S14.N):∀e,(S14.ev N e).parts.length=N.parts.length
 | .ctx _=>S14.openK_length _ _
 | .bit b=>learnN_parts N b
theorem Pre.run{k:Nat}:∀(es:List Ev) {N N':S14.N},Pre k N N'→k≤N.comps.length→N.parts.length=N.comps.length→
 (S14.runH es N).map (fun M=>S14.outs (S14.outA M) k)=(S14.runH es N').map (fun M=>S14.outs (S14.outA M) k)
 | [],N,N',h,_,_=>by
   show [S14.outs (S14.outA N) k] = [S14.outs (S14.outA N') k];rw[h.outs k (zE _)]
 | .ctx la::es,N,N',h,hk,hp=>Pre.run es (h.ev hk hp (.ctx la)) hk ((S14.openK_length _ _).trans hp)
 | .bit b::es,N,N',h,hk,hp=>by
   show S14.outs (S14.outA N) k::_=S14.outs (S14.outA N') k::_;rw[h.outs k (zE _)];exact yI _ (Pre.run es (h.ev hk hp (.bit b)) (by rw[ev_comps];exact hk) (by rw[ev_parts,ev_comps];exact hp))
