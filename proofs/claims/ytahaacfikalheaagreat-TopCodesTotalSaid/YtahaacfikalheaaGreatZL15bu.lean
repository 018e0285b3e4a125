/- A part of the proof of L15. No condition. -/
import Derived.Test.YtahaacfikalheaaGreatZL15bn
import Derived.Test.YtahaacfikalheaaGreatZL15bo
import Derived.Test.YtahaacfikalheaaGreatZL15bt
set_option linter.all false
set_option maxRecDepth 100000
set_option maxHeartbeats 2000000
namespace Go.Proofs.YtahaacfikalheaaGreat
open Go.RowKit
theorem PIs.ofH{l:List (Int×Int)}{a aT:Option Addr}{c cT:Nat}{B:Int}{XX:List Int}{w:World}(hr:Rd w a (Cts l))(ht:Tab XX aT cT w):PIs {S14.P0 with ctrs:=l,sb:=B,sd:=XX} {zdO with a1:=a,c1:=c,a2:=aT,c2:=cT} w:=
 ⟨hr,ht,(PIs.zero w).mch,(PIs.zero w).mix,(PIs.zero w).apm⟩
def S14.freshH(bits:Int):S14.P:={S14.P0 with ctrs:=List.replicate 215 (32768,0),sb:=S10.newB bits,sd:=S10.newX bits}
theorem zqB(c:S14.C)(w:World) :
 Calls Tryz.prog 143 #[CV c] w fun e w'=>∃y,e = .returned (PV (S14.freshH c.bits) y)∧PRob 0 w.heap.size (S14.freshH c.bits) y w'∧Below w.heap.size w w':=by
 unfold S14.freshH;have HN:=zB fun W=>new10_any c.bits W;have Hok:=zB (OK8.newX c.bits);have HC:=zB fun W=>zfW W;have HT:=zB fun W=>zoP 215 (by omega) (by omega) W;obtain⟨XX,hXX⟩:∃x,S10.newX c.bits=x:=⟨_,rfl⟩;obtain⟨B,hB⟩:∃x,S10.newB c.bits=x:=⟨_,rfl⟩;obtain⟨E,hE⟩:∃x,S10.newE c.bits=x:=⟨_,rfl⟩;obtain⟨ws,hws⟩:∃l,List.replicate 215 ((32768:Int),(0:Int))=l:=⟨_,rfl⟩;have hwl:ws.length=215:=by rw[←hws,zaW]
 rw[hXX,hB,hE]at HN;rw[hXX]at Hok;rw[hws]at HT;rw[hXX,hB,hws];obtain⟨W1,hW1⟩:∃W1,(w.alloc (.cells (zZ c).toArray 113)).alloc (.cells zP 78)=W1:=⟨_,rfl⟩;have k1:Blk W1 w.heap.size (zZ c) 113:=by rw[←hW1];exact(Blk.new w _ _).alloc _
 have k2:Blk W1 (w.heap.size+1) (yL S14.P0 zdO) 78:=by
  rw[←hW1];have h:=zeH (w.alloc (.cells (zZ c).toArray 113));rwa[zV]at h
 have B1:Below w.heap.size w W1:=by rw[←hW1];exact((zF _ _).alloc (zD _) _).alloc (by simp) _
 have hW1s:W1.heap.size=w.heap.size+2:=by rw[←hW1];simp
 obtain⟨kind,bits,limit,rate,first,second⟩:=c;unfold CV;unfold zZ at *;simp only at HN hW1 k1⊢;have x1:=k1.cell 1;simp only[zuK]at x1;have Hwl:=zB hwl;have HW1s:=zB hW1s;clear hXX hB hE hws hwl hW1s k1;go_enter Tryz.func143,Tryz.ntmps143;go_wp2_with (first
  | (refine zaB 78 zP zcS (by rfl) (by rfl) ?_;rw[hW1])
  | fail)
 refine(HN.out _).mono ?_;rintro e w3 ⟨V,rfl,TOv,hb3⟩;have B3:=zA B1 hb3;have k2:=k2.step hb3;obtain⟨aT,cT,rfl,hT,hF8⟩:=TOv.open Hok.out;unfold zhO;obtain⟨W4,hW4⟩:∃W,w3.alloc (.cells #[.int .i64 0,.slice none 0 0] 68)=W:=⟨_,rfl⟩;obtain⟨b4,hb4⟩:∃b,w3.heap.size=b:=⟨_,rfl⟩;have kA:Blk W4 b4 [.int .i64 0,.slice none 0 0] 68:=by rw[←hW4,←hb4];exact Blk.new w3 _ _
 have ba4:Below w3.heap.size w3 W4:=by rw[←hW4];exact(zF _ _).alloc (zD _) _
 have hT4:=hT.step ba4
 have hTb:∀g o,XX≠ []→aT=some ⟨g,o,none⟩→g<b4:=fun g o hx e=>by
  obtain⟨g',o',e',hr⟩:=hT.rd (fun h=>hx (by cases XX with
   | nil=>rfl
   | cons _ _=>cases h))
  rw[e]at e';cases e';have hv:∃v,(Bts XX)[0]? = some v:=by cases XX with
   | nil=>exact absurd rfl hx
   | cons x r=>exact⟨_,rfl⟩
  obtain⟨v,hv⟩:=hv;rw[←hb4];exact zL (hr 0 v hv)
 have k2:=k2.step ba4;have B4:=zA B3 ba4;have zb:w.heap.size+1<b4:=by have:=hb3.size;have:=HW1s.out;omega
 have HT4:=zB hT4;have HF8:=zB (hF8.mono (by have:=HW1s.out;omega):Fr aT (w.heap.size+2));have HTb:=zB hTb;clear TOv hT hF8 hb3 B3 ba4 x1 hT4 hTb;go_wp2_with (first
  | (rw[hW4,hb4])
  | (rw[hW4])
  | (refine zT 68 (.tmp 3) (.tmp 10) (by rfl) (by rfl) b4 (by rfl) [.int .i64 B,.slice aT XX.length cT] (by rfl) _ 68 kA zpX rfl (by simp[Value.oneCell']) ?_;intro s5 E5 g5 z5;clear z5))
 have k25:=k2.keptRow g5 (by intro e;have:=zK e;omega)
 have hT5:Tab XX aT cT s5:=⟨HT4.out.ok,HT4.out.cap,by
  by_cases hx:XX = []
  ·subst hx;exact fun h=>absurd rfl h
  ·exact HT4.out.rd.keptRow g5 (fun g o e=>by have:=HTb.out g o hx e;omega)⟩
 have B5:=B4.trans (yG g5 (by omega) B4.size);have HT5:=zB hT5;have hCS:Cells s5 [(⟨b4,0,none⟩,.int .i64 B),(⟨b4,1,none⟩,.slice aT XX.length cT)]:=⟨E5.cell 0,E5.cell 1,yF⟩;clear hT5 HT4 B4 k2 g5 kA;refine zuL 4 1 [(U,[zuH,zuH,U]),(zuH,[U]),(zuH,[zuH,U]),(U,[zuH,zuH,zuH,U])] (fun K=>Below s5.heap.size s5 K∧Cells K [(⟨b4,0,none⟩,.int .i64 B),(⟨b4,1,none⟩,.slice aT XX.length cT)]) (by kernel_rfl) (⟨(zF _ _).drew,hCS⟩) (fun Y Q4 F4 hY hF=> ?_);simp only[zuJ]
 repeat
  apply zJ (by rw[hY];rfl)
  ·intro w2 hS2;(try simp only[Keeps,Cells]at hS2);go_simp;with_reducible rfl
  simp only[zuI]
 have hbv0:Below s5.heap.size s5 s5.drew:=(zF _ _).drew;apply zR (by rw[hY];rfl)
 ·go_simp;with_reducible exact⟨rfl,rfl⟩
 refine(HC.out _).mono ?_;rintro e v1 ⟨rfl,hbv10⟩;have hbv1:=zA hbv0 hbv10;refine⟨_,rfl,⟨hbv1,Cells.step hbv1 hCS⟩,?_⟩;simp only[zuI];apply zR (by rw[hY];rfl)
 ·go_simp;with_reducible exact⟨rfl,rfl⟩
 refine(HT.out _).mono ?_;rintro e v2 ⟨a,cap,rfl,hfar,hrd,hbv20⟩;have hbv2:=zA hbv1 hbv20;refine⟨_,rfl,⟨hbv2,Cells.step hbv2 hCS⟩,?_⟩;simp only[zuI]
 repeat
  apply zJ (by rw[hY];rfl)
  ·intro w2 hS2;(try simp only[Keeps,Cells]at hS2);go_simp;with_reducible rfl
  simp only[zuI]
 refine yE (hF.out _ _ (fun K hK=> ?_));clear hF hY;have HK:=zB hK;clear hK;have k28:=k25.step hbv2;have BS:=zA B5 hbv2;have hfar2:∀g o,a=some ⟨g,o,none⟩→w.heap.size+2≤g:=fun g o e=>by have:=hfar g o e;have:=hbv1.size;have:=B5.size;have:=E5.lt;omega
 have Hrd:=zB hrd;have Hfar:=zB hfar2;have HT8:=zB (HT5.out.step hbv2);have hone:∀v∈yL {S14.P0 with ctrs:=ws,sb:=B,sd:=XX} {zdO with a1:=a,c1:=cap,a2:=aT,c2:=cT},v.oneCell'=true:=zaM _ _;have hPV:yL {S14.P0 with ctrs:=ws,sb:=B,sd:=XX} {zdO with a1:=a,c1:=cap,a2:=aT,c2:=cT} = [.slice a 215 cap,.int .i64 B,.slice aT XX.length cT,.int .i64 0,.int .i64 0,.int .i64 0,.slice none 0 0,.slice none 0 0,.int .i64 0,.int .i64 0,.int .i64 0,.int .i64 0,.slice none 0 0,.int .i64 0,.slice none 0 0,.slice none 0 0]:=by
  unfold yL;simp only[Hwl.out];rfl
 rw[hPV]at hone;clear hrd hfar hfar2 hbv1 hbv2 hbv10 hbv20 hbv0 hCS;simp only[ldc,ldz];refine(zT 78 (.tmp 2) (.tmp 15) (by rfl) (by rfl) (w.heap.size+1) (by rfl) [.slice a 215 cap,.int .i64 B,.slice aT XX.length cT,.int .i64 0,.int .i64 0,.int .i64 0,.slice none 0 0,.slice none 0 0,.int .i64 0,.int .i64 0,.int .i64 0,.int .i64 0,.slice none 0 0,.int .i64 0,.slice none 0 0,.slice none 0 0] (by rfl) _ 78 k28 (info_P.trans rfl) rfl hone ?_);intro wL EL gL sL;go_wp2_with fail;refine OnlyK.mk (HK.out _ _ ?_);go_wp2_with fail;have hL:=run_loadVar_mid wL _ 0 _ _ _ EL.cells Tryz.underlying78 rfl (info_P.trans rfl);refine bodyPost_ret (v:=.agg #[.slice a 215 cap,.int .i64 B,.slice aT XX.length cT,.int .i64 0,.int .i64 0,.int .i64 0,.slice none 0 0,.slice none 0 0,.int .i64 0,.int .i64 0,.int .i64 0,.int .i64 0,.slice none 0 0,.int .i64 0,.slice none 0 0,.slice none 0 0]) ?_ rfl ?_
 ·exact zbH (show Tryz.f143.results = #[.cell 2 78]from rfl) (p:=⟨w.heap.size+1,0,none⟩) rfl hL
 ·refine⟨{zdO with a1:=a,c1:=cap,a2:=aT,c2:=cT},?_,fun w' hk=> ?_,BS.trans (yG gL (by omega) BS.size)⟩
  ·unfold PV;rw[hPV]
  ·have hX:KepX (fun k=>k<w.heap.size+2) _ w':=(KepX.row gL (fun b e=>.inl (by show b<_;have:=zK e;omega))).trans (hk.toX14.mono0 (by omega));exact PIs.ofH (Hrd.out.kepX hX (fun g o e=>by have:=Hfar.out g o e;show¬g<_;omega)) (HT8.out.kepX hX (fun g o e=>by have:=HF8.out g o e;show¬g<_;omega))
def S14.seen(N:S14.N)(k:Nat)(c:S14.C):List Int:=((S14.outs (S14.outA N) k).drop c.first.toNat).take (c.second.toNat+1-c.first.toNat)
def S14.st(N:S14.N)(p:S14.P):Nat:=(S10.getN p.sb p.sd p.slot (S14.node N.part.toNat:Nat)).toNat
def S14.learnP(N:S14.N)(bit:Int)(k:Nat)(c:S14.C)(p:S14.P):S14.P:=
 if c.kind=1 then {p with ctrs:=S14.upd p.ctrs (S14.at_ N k c) bit c.limit}
 else if c.kind=2 then {p with ctrs:=S14.upd p.ctrs (S14.st N p) bit c.limit,sb:=S10.setB p.sb p.sd p.slot (S14.node N.part.toNat:Nat) (S09.nextS (S14.st N p) bit),sd:=S10.setX p.sb p.sd p.slot (S14.node N.part.toNat:Nat) (S09.nextS (S14.st N p) bit)}
 else if c.kind=3 then {p with m:=S12.bitR p.m bit}
 else if c.kind=5 then {p with mi:=p.mi,mw:=S13.learnL p.mw (S14.at_ N k c) (S14.seen N k c) bit c.rate}
 else if c.kind=6 then {p with ac:=S11.update p.ac (S14.at_ N k c) (S06.squash ((S14.outs (S14.outA N) k).getD c.first.toNat 0)) bit c.rate}
 else p
def S14.learnA(N:S14.N)(bit:Int)(k:Nat):S14.P:=S14.learnP N bit k (N.comps.getD k S14.zc) (N.parts.getD k S14.P0)
def S14.freshA(c:S14.C):S14.P:=
 if c.kind=1 then S14.fresh1 (2^c.bits.toNat)else if c.kind=2 then S14.freshH c.bits
 else if c.kind=3 then {S14.P0 with m:=S12.newM c.bits c.limit}
 else if c.kind=5 then {S14.P0 with mi:=c.second-c.first+1,mw:=List.replicate (2^c.bits.toNat) (List.replicate (c.second-c.first+1).toNat (65536/(c.second-c.first+1)))}
 else if c.kind=6 then {S14.P0 with ac:=zfE S11.first (2^c.bits.toNat)}else S14.P0
theorem zdF{c:S14.C}{p:S14.P}{pt:Int}(h:c.kind=0∨c.kind=4):S14.right c p pt=true↔S14.bare p=true:=by
 unfold S14.right;rcases h with h|h
 ·rw[zO h]
 ·rw[zG (by omega),zG (by omega),zG (by omega),zG (by omega),zO h]
theorem zfD{c:S14.C}{p:S14.P}{pt:Int}(h:c.kind=1):S14.right c p pt=true↔S14.bare {p with ctrs:=[]}=true∧S14.okCtrs p.ctrs (2^c.bits.toNat) c.limit=true:=by
 unfold S14.right;rw[zG (by omega),zO h,zS]
theorem zeP{c:S14.C}{p:S14.P}{pt:Int}(h:c.kind=2):S14.right c p pt=true↔(((S14.okCtrs p.ctrs 215 c.limit=true∧p.sb=c.bits)∧S10.check p.sb p.sd=0)∧(0≤p.slot∧p.slot≤2^c.bits.toNat-1))∧S14.bare {p with ctrs:=[],sb:=0,sd:=[],slot:=0}=true:=by
 unfold S14.right;rw[zG (by omega),zG (by omega),zO h];simp only[zS,zY,beq_iff_eq,S14.has_iff]
theorem zgZ{c:S14.C}{p:S14.P}{pt:Int}(h:c.kind=3):S14.right c p pt=true↔(((S14.bare {p with m:=S14.zM}=true∧p.m.bits=c.bits)∧p.m.least=c.limit)∧p.m.part=pt)∧S12.check p.m=0:=by
 unfold S14.right;rw[zG (by omega),zG (by omega),zG (by omega),zO h];simp only[zS,zY,beq_iff_eq]
theorem zhP{c:S14.C}{p:S14.P}{pt:Int}(h:c.kind=5):S14.right c p pt=true↔((S14.bare {p with mi:=0,mw:=[]}=true∧p.mi=c.second-c.first+1)∧(p.mw.length:Int)=2^c.bits.toNat)∧S13.check 16 p.mi p.mw=0:=by
 unfold S14.right;rw[zG (by omega),zG (by omega),zG (by omega),zG (by omega),zG (by omega),zO h];simp only[zS,zY,beq_iff_eq]
theorem zfC{c:S14.C}{p:S14.P}{pt:Int}(h:c.kind=6):S14.right c p pt=true↔(S14.bare {p with ac:=[]}=true∧(p.ac.length:Int)=33*2^c.bits.toNat)∧S11.check p.ac=0:=by
 unfold S14.right;rw[zG (by omega),zG (by omega),zG (by omega),zG (by omega),zG (by omega),zG (by omega),zO h];simp only[zS,zY]
theorem okCtrs_iff{l:List (Int×Int)}{n:Nat}{limit:Int}:S14.okCtrs l n limit=true↔l.length=n∧∀c∈l,S08.check c.1 c.2 limit=0:=by
 unfold S14.okCtrs;simp only[zS,zY,Bool.not_eq_true',List.any_eq_false,Decidable.not_not]
theorem step_check{p n bit limit:Int}(h:S08.check p n limit=0)(hb:bit=0∨bit=1):S08.check (S08.updateP p n bit limit) (S08.updateN p n bit limit) limit=0:=by
 obtain⟨h1,h2,h3,h4,h5,h6⟩:=S08.check_ok h;have hE:S08.updateE p n bit limit=0:=by unfold S08.updateE;rw[zG (by rw[h];simp),zG (by omega)]
 have hs:=S08.step_between h3 h4 h5 hb;unfold S08.updateP S08.updateN;rw[zG (by rw[hE];simp),zG (by rw[hE];simp)];have hr:0≤S08.step p n bit∧S08.step p n bit≤65535:=by
  rcases hb with hb|hb
  ·have:=hs.2 hb;omega
  ·have:=hs.1 hb;omega
 unfold S08.check;rw[zG (by omega),zG (by omega)]
theorem zsA{l:List (Int×Int)}{n i:Nat}{bit limit:Int}(h:S14.okCtrs l n limit=true)(hi:i<n)(hb:bit=0∨bit=1):S14.okCtrs (S14.upd l i bit limit) n limit=true:=by
 rw[okCtrs_iff]at h⊢;unfold S14.upd;refine⟨by rw[yT];exact h.1,fun c hc=> ?_⟩;rcases List.mem_or_eq_of_mem_set hc with hc|rfl
 ·exact h.2 c hc
 ·have hm:l.getD i (0,0)∈l:=by
   rw[zI,zE (by omega),zeK];exact zbC _
  exact step_check (h.2 _ hm) hb
theorem zsP{bits:Int}{xs:List Int}(h:S10.check bits xs=0)(hok:OK8 xs):∃n:Nat,bits=n∧Good n xs:=by
 obtain⟨n,rfl,hn,hl,hb⟩:=S10.correct h;refine⟨n,rfl,hn,hl,hok,fun j hj hz=> ?_⟩;rw[S10.bad_eq hl]at hb;unfold S10.badP at hb;rw[List.any_eq_false]at hb;have h2:=hb j (List.mem_range.2 (by omega));unfold S10.bad2 at h2;rw[zQ hz,zcN,zY]at h2;omega
theorem zsC:∀p<256,1≤p→1≤S14.node p∧S14.node p≤15:=by decide +kernel
theorem bitM_facts(m:S12.M)(b:Int):(S12.bitM m b).bits=m.bits∧(S12.bitM m b).least=m.least∧(S12.bitM m b).part=(if 255<2*m.part+b then 1 else 2*m.part+b)∧((S12.bitM m b).bytes=m.bytes∨(255<2*m.part+b∧(S12.bitM m b).bytes=m.bytes ++ [2*m.part+b-256])):=by
 obtain⟨l1,l2,l3,l4,l5⟩:=S12.learn_bits m b;unfold S12.bitM S12.expect S12.take;rw[l4];by_cases h:255<2*m.part+b
 ·rw[zO h,zO h];simp only;unfold S12.search S12.extend;refine⟨?_,?_,?_,.inr ⟨h,?_⟩⟩<;>(repeat' split)<;>simp_all
 ·rw[zG h,zG h];exact⟨l1,l2,rfl,.inl l3⟩
structure GoodP(t:Nat)(c:S14.C)(p:S14.P)(pt:Int):Prop where
 right:S14.right c p pt=true
 tab:OK8 p.sd
 byt:S12.Byt p.m.bytes
 few:p.m.bytes.length≤t
structure GoodN(N:S14.N)(t:Nat):Prop where
 check:S14.check N.comps=0
 len:N.parts.length=N.comps.length
 xl:N.ctxs.length=16
 pt:1≤N.part∧N.part≤255
 ps:∀(k:Nat) (c:S14.C) (p:S14.P),N.comps[k]? = some c→N.parts[k]? = some p→GoodP t c p N.part
theorem GoodN.net{N:S14.N}{t:Nat}(h:GoodN N t):S14.checkNet N=0:=S14.checkNet_of h.check h.len h.xl h.pt (fun k c p h1 h2=>(h.ps k c p h1 h2).right)
theorem at_lt{N:S14.N}{k:Nat}{c:S14.C}(h:0≤c.bits∧c.bits≤16):S14.at_ N k c<2^c.bits.toNat:=S14.index_lt _ _ (by omega)
theorem S14.outs_in{N:S14.N}{L:NLay}{w:World}{O:Nat→List Int→Int}(HK:zhE N L w O):∀k,k≤N.comps.length→∀x∈S14.outs O k,-3071≤x∧x≤3071
 | 0,_,x,hx=>by cases hx
 | k+1,hk,x,hx=>by
   have ih:=S14.outs_in HK k (by omega);rw[S14.outs,List.mem_append,zaS]at hx;rcases hx with h|rfl
   ·exact ih x h
   ·have hc:N.comps[k]? = some N.comps[k]:=zE (by omega);have hb:Below w.heap.size w (w.alloc (.cells (zaK (S14.outs O k)).toArray 3)):=(zF _ _).alloc (zD _) _;exact(HK k _ hc (S14.outs O k) (some ⟨w.heap.size,0,none⟩) _ hb (Rd.new w (zaK (S14.outs O k)) _) (S14.outs_length O k) ih).2
theorem GoodP.hist{t:Nat}{N:S14.N}{c:S14.C}{p:S14.P}{bit:Int}(h:GoodP t c p N.part)(hk:c.kind=2)(hpt:1≤N.part∧N.part≤255)(hb:bit=0∨bit=1) :
 S10.getN p.sb p.sd p.slot (S14.node N.part.toNat:Nat)=(S14.st N p:Int)∧S14.st N p<215∧p.ctrs.length=215∧S09.nextE (S14.st N p) bit=0∧(0≤S09.nextS (S14.st N p) bit∧S09.nextS (S14.st N p) bit<215)∧
  S10.setE p.sb p.sd p.slot (S14.node N.part.toNat:Nat) (S09.nextS (S14.st N p) bit)=0:=by
 obtain⟨⟨⟨⟨h1,h2⟩,h3⟩,h4⟩,h5⟩:=(zeP hk).1 h.right;have hg:=S10.getN_lt p.slot (S14.node N.part.toNat:Nat) h3 h.tab;have hs:S10.getN p.sb p.sd p.slot (S14.node N.part.toNat:Nat)=(S14.st N p:Int):=(Int.toNat_of_nonneg hg.1).symm;have hl:S14.st N p<215:=by unfold S14.st;omega
 obtain⟨B,hB,rfl⟩:∃B:Nat,B<2∧bit=(B:Int):=by rcases hb with rfl|rfl;exact⟨0,by decide,rfl⟩;exact⟨1,by decide,rfl⟩
 have hx:=S09.nextS_ok (s:=(S14.st N p:Int)) ⟨by omega,by omega⟩ hB;have hr:=S09.next_range (s:=(S14.st N p:Int)) ⟨by omega,by omega⟩ hB;rw[←hx.1]at hr;have hn:=zsC N.part.toNat (by omega) (by omega);refine⟨hs,hl,(okCtrs_iff.1 h1).1,hx.2,hr,?_⟩;unfold S10.setE;have hnd:S10.node p.sb p.sd p.slot (S14.node N.part.toNat:Nat)=0:=by
  unfold S10.node;rw[zO h3];unfold S10.exists;rw[zQ (by rw[h2];omega),zQ (by omega)];rfl
 rw[zO hnd,zO (by omega)]
theorem GoodP.mix{t:Nat}{N:S14.N}{k:Nat}{c:S14.C}{p:S14.P}(h:GoodP t c p N.part)(hk:c.kind=5)(hbits:0≤c.bits∧c.bits≤16)(hfs:0≤c.first∧c.first≤c.second∧c.second≤(k:Int)-1)
 (hO:∀x∈S14.outs (S14.outA N) k,-3071≤x∧x≤3071):S13.usable 16 p.mi p.mw (S14.at_ N k c:Nat) (S14.seen N k c)=0:=by
 obtain⟨⟨⟨h1,h2⟩,h3⟩,h4⟩:=(zhP hk).1 h.right;have hat:=at_lt (N:=N) (k:=k) hbits;have hl:(S14.seen N k c).length=c.second.toNat+1-c.first.toNat:=by unfold S14.seen;rw[yJ,zgS,S14.outs_length];omega
 unfold S13.usable;have hpw:((2^c.bits.toNat:Nat):Int)=2^c.bits.toNat:=by simp
 rw[zG (by rw[h4];simp),zG (by rw[h3];omega),zG (by rw[hl,h2];omega),zG];rw[Bool.not_eq_true,List.any_eq_false];intro x hx;have hx2:=hO x (List.mem_of_mem_drop (List.mem_of_mem_take hx));unfold S13.strong;simp;omega
theorem GoodP.refine{t:Nat}{N:S14.N}{k:Nat}{c:S14.C}{p:S14.P}(h:GoodP t c p N.part)(hk:c.kind=6)(hbits:0≤c.bits∧c.bits≤16)(x:Int):S11.usable p.ac (S14.at_ N k c:Nat) (S06.squash x)=0:=by
 obtain⟨⟨h1,h3⟩,h4⟩:=(zfC hk).1 h.right;have hat:=at_lt (N:=N) (k:=k) hbits;have hq:=S06.squash_bounds x;have h3':p.ac.length=33*2^c.bits.toNat:=by
  have:((33*2^c.bits.toNat:Nat):Int)=33*2^c.bits.toNat:=by simp
  omega
 unfold S11.usable;rw[zG (by rw[h4];simp),zG (by rw[h3',Nat.mul_div_cancel_left _ (by decide)];omega),zG (by omega)]
theorem zsQ{l:List Int}(h1:l.length%33=0)(h2:33≤l.length)(h3:l.length≤2162688)(h4:∀x∈l,0≤x∧x≤65535):S11.check l=0:=by
 unfold S11.check;rw[zG (by omega),zG];rw[Bool.not_eq_true,List.any_eq_false];intro x hx;have:=h4 x hx;unfold S11.bad;simp;omega
theorem zqO{l:List Int}(h:S11.check l=0):(l.length%33=0∧33≤l.length∧l.length≤2162688)∧∀x∈l,0≤x∧x≤65535:=by
 unfold S11.check at h;split at h
 ·cases h
 ·split at h
  ·cases h
  ·rename_i h1 h2
   refine⟨by omega,fun x hx=> ?_⟩;rw[Bool.not_eq_true,List.any_eq_false]at h2;have:=h2 x hx;unfold S11.bad at this;simp at this;omega
theorem check11_upd{l:List Int}{c:Nat}{p bit rate:Int}(h:S11.check l=0)(hb:bit=0∨bit=1)(hr:1≤rate∧rate≤255):S11.check (S11.update l c p bit rate)=0:=by
 obtain⟨⟨h1,h2,h3⟩,h4⟩:=zqO h;have hl:=S11.update_length l c p bit rate;have hf:=S11.from_bounds p
 have hg:∀i,0≤l.getD i 0∧l.getD i 0≤65535:=fun i=>by
  rw[zI];rcases zaE i l.length with hi|hi
  ·rw[zE hi,zeK];exact h4 _ (zbC hi)
  ·rw[yP hi];simp
 refine zsQ (by omega) (by omega) (by omega) (fun y hy=> ?_);have k1:=fun i=>(S11.learn_facts (u:=l.getD i 0) (hg i).1 (hg i).2 hb (rate:=rate) (by omega) (by omega) (share:=192-S11.from p) (by omega) (by omega)).2.2.2.2;have k2:=fun i=>(S11.learn_facts (u:=l.getD i 0) (hg i).1 (hg i).2 hb (rate:=rate) (by omega) (by omega) (share:=S11.from p) (by omega) (by omega)).2.2.2.2;unfold S11.update at hy;rcases List.mem_or_eq_of_mem_set hy with hy|rfl
 ·rcases List.mem_or_eq_of_mem_set hy with hy|rfl
  ·exact h4 y hy
  ·exact k1 _
 ·exact k2 _
theorem zoU(d rate:Int):∀ws xs:List Int,ws.any S13.heavy=false→(S13.learnRow d rate ws xs).any S13.heavy=false
 | [],xs,h=>by cases xs<;>exact h
 | w::ws,[],h=>h
 | w::ws,x::xs,h=>by
   rw[List.any_cons,Bool.or_eq_false_iff]at h;show(S13.lw d rate w x::S13.learnRow d rate ws xs).any S13.heavy=false;rw[List.any_cons,zoU d rate ws xs h.2,Bool.or_false];unfold S13.lw S13.heavy;simp;omega
theorem ztX{n:Int}{L:List (List Int)}(h:S13.check 16 n L=0)(c:Nat)(xs:List Int)(bit rate:Int):S13.check 16 n (S13.learnL L c xs bit rate)=0:=by
 obtain⟨h1,h2,h3,h4,h5⟩:=S13.check_zero h;unfold S13.check;have hl:(S13.learnL L c xs bit rate).length=L.length:=by unfold S13.learnL;rw[yT]
 rw[zG (by omega)];refine S13.rows_of (fun l hl2=> ?_);unfold S13.learnL at hl2;rcases List.mem_or_eq_of_mem_set hl2 with hl2|rfl
 ·exact h5 l hl2
 ·rw[S13.learnRow_length];by_cases hc:c<L.length
  ·have hm:L.getD c []∈L:=by
    rw[zI,zE hc,zeK];exact zbC _
   exact⟨(h5 _ hm).1,zoU _ _ _ _ (h5 _ hm).2⟩
  ·rw[List.set_eq_of_length_le (by omega)]at hl2;rw[←S13.learnRow_length];exact h5 _ hl2
theorem GoodP.learn{t:Nat}{N:S14.N}{k:Nat}{c:S14.C}{p:S14.P}{bit:Int}(h:GoodP t c p N.part)(hok:S14.ok c (k:Int)=true)(hpt:1≤N.part∧N.part≤255)(ht:t<65536)(hb:bit=0∨bit=1):GoodP (t+1) c (S14.learnP N bit k c p) (S14.next N.part bit):=by
 have hi:=S14.ok_is hok;unfold S14.learnP;rcases hi.kind with hk|hk|hk|hk|hk|hk|hk
 ·rw[zG (by omega),zG (by omega),zG (by omega),zG (by omega),zG (by omega)];exact⟨(zdF (.inl hk)).2 ((zdF (.inl hk)).1 h.right),h.tab,h.byt,Nat.le_succ_of_le h.few⟩
 ·rw[zO hk];have hr:=(zfD hk).1 h.right;exact⟨(zfD hk).2 ⟨hr.1,zsA hr.2 (at_lt hi.bits) hb⟩,h.tab,h.byt,Nat.le_succ_of_le h.few⟩
 ·rw[zG (by omega),zO hk];obtain⟨g1,g2,g3,g4,g5,g6⟩:=h.hist hk hpt hb;obtain⟨⟨⟨⟨h1,h2⟩,h3⟩,h4⟩,h5⟩:=(zeP hk).1 h.right;obtain⟨n,hn,hG⟩:=zsP h3 h.tab;have hnr:=zsC N.part.toNat (by omega) (by omega);have hcb:c.bits.toNat=n:=by omega
  rw[hcb]at h4;have h2n:((2^n:Nat):Int)=2^n:=by simp
  obtain⟨sl,hsl⟩:∃x:Nat,p.slot=(x:Int):=⟨p.slot.toNat,by omega⟩;have hsn:sl<2^n:=by omega
  have eB:=hG.setB (i:=sl) (k:=S14.node N.part.toNat) hsn hnr.1 hnr.2 g5;have eX:=hG.setX (i:=sl) (k:=S14.node N.part.toNat) hsn hnr.1 hnr.2 g5;rw[←hn,←hsl]at eB eX;have hG2:=hG.set (16*sl+S14.node N.part.toNat) (S09.nextS (S14.st N p) bit) ⟨g5.1,by omega⟩ (fun _=>g5.2);refine⟨(zeP hk).2 ⟨⟨⟨⟨zsA h1 g2 hb,?_⟩,?_⟩,?_⟩,h5⟩,?_,h.byt,Nat.le_succ_of_le h.few⟩
  ·show S10.setB _ _ _ _ _=_;rw[eB];exact h2
  ·show S10.check (S10.setB _ _ _ _ _) (S10.setX _ _ _ _ _)=0;rw[eB,eX,hn];exact hG2.check
  ·show 0≤p.slot∧p.slot≤_;rw[hcb];exact h4
  ·show OK8 (S10.setX _ _ _ _ _);rw[eX];exact hG2.ok
 ·rw[zG (by omega),zG (by omega),zO hk];obtain⟨⟨⟨⟨h1,h2⟩,h3⟩,h4⟩,h5⟩:=(zgZ hk).1 h.right;have hw:=(S12.check_iff p.m).1 h5;have hE:=S12.bitE_ok hw hb (by have:=h.few;omega);have eR:S12.bitR p.m bit=S12.bitM p.m bit:=by unfold S12.bitR;rw[zO hE]
  obtain⟨f1,f2,f3,f4⟩:=bitM_facts p.m bit;rw[eR];refine⟨(zgZ hk).2 ⟨⟨⟨⟨h1,f1.trans h2⟩,f2.trans h3⟩,?_⟩,(S12.check_iff _).2 (hw.bitM h.byt hb hE)⟩,h.tab,?_,?_⟩
  ·show(S12.bitM p.m bit).part=_;rw[f3,h4];rfl
  ·show S12.Byt (S12.bitM p.m bit).bytes;rcases f4 with f4|⟨f5,f4⟩
   ·rw[f4];exact h.byt
   ·rw[f4];intro x hx;rw[List.mem_append,zaS]at hx;rcases hx with hx|rfl
    ·exact h.byt x hx
    ·omega
  ·show(S12.bitM p.m bit).bytes.length≤_;have:=h.few;rcases f4 with f4|⟨_,f4⟩
   ·rw[f4];omega
   ·rw[f4,yN,zcF];omega
 ·rw[zG (by omega),zG (by omega),zG (by omega),zG (by omega),zG (by omega)];exact⟨(zdF (.inr hk)).2 ((zdF (.inr hk)).1 h.right),h.tab,h.byt,Nat.le_succ_of_le h.few⟩
 ·rw[zG (by omega),zG (by omega),zG (by omega),zO hk];obtain⟨⟨⟨h1,h2⟩,h3⟩,h4⟩:=(zhP hk).1 h.right;refine⟨(zhP hk).2 ⟨⟨⟨h1,h2⟩,?_⟩,ztX h4 _ _ _ _⟩,h.tab,h.byt,Nat.le_succ_of_le h.few⟩;show((S13.learnL _ _ _ _ _).length:Int)=_;unfold S13.learnL;rw[yT];exact h3
 ·rw[zG (by omega),zG (by omega),zG (by omega),zG (by omega),zO hk];obtain⟨⟨h1,h2⟩,h3⟩:=(zfC hk).1 h.right;have hrt:1≤c.rate∧c.rate≤255:=by
   unfold S14.ok at hok;rw[zG (by omega),zG (by omega),zG (by omega),zG (by omega),zG (by omega),zG (by omega),zO hk]at hok;unfold S14.okRefine at hok;simp only[zS,S14.has_iff]at hok;omega
  refine⟨(zfC hk).2 ⟨⟨h1,?_⟩,check11_upd h3 hb hrt⟩,h.tab,h.byt,Nat.le_succ_of_le h.few⟩;show((S11.update _ _ _ _ _).length:Int)=_;rw[S11.update_length];exact h2
theorem GoodP.open_{t:Nat}{N:S14.N}{k:Nat}{c:S14.C}{p:S14.P}(h:GoodP t c p N.part)(hc:N.comps[k]? = some c)(hbits:0≤c.bits∧c.bits≤16):GoodP t c (S14.openP N k p) N.part:=by
 unfold S14.openP;rw[hc];by_cases hk:c.kind=2
 ·rw[zO (by rw[Option.map_some,hk])];obtain⟨⟨⟨⟨h1,h2⟩,h3⟩,h4⟩,h5⟩:=(zeP hk).1 h.right;obtain⟨n,hn,hG⟩:=zsP h3 h.tab;have hcb:c.bits.toNat=n:=by omega
  have hh:=S14.hash_lt (N.ctxs.getD k 0) N.part.toNat;have hX:=hG.openX _ hh;have hL:=hG.openN_lt (S14.hash (N.ctxs.getD k 0) N.part.toNat);have hB:=hG.openB;rw[←hn]at hX hL hB;have h2n:((2^n:Nat):Int)=2^n:=by simp
  unfold S14.open1;refine⟨(zeP hk).2 ⟨⟨⟨⟨h1,?_⟩,?_⟩,?_⟩,h5⟩,hX.ok,h.byt,h.few⟩
  ·show S10.openB _ _=_;rw[hB];exact h2
  ·show S10.check (S10.openB _ _) _=0;rw[hB,hn];rw[hn]at hX;exact hX.check
  ·show 0≤((S10.openN _ _ _:Nat):Int)∧((S10.openN _ _ _:Nat):Int)≤_;rw[hcb];omega
 ·rw[zG (by rw[Option.map_some];exact fun e=>hk (zK e))];exact h
theorem openK_get{N:S14.N}:∀(n j:Nat),(S14.openK N n)[j]? = if j<n then(N.parts[j]?).map (S14.openP N j)else N.parts[j]?
 | 0,j=>by rw[zG (by omega)];rfl
 | n+1,j=>by
   have ih:=openK_get (N:=N) n;rw[S14.openK];have hn:=ih n;rw[zG (by omega)]at hn;split
   ·rename_i p hp
    rw[List.getElem?_set];have hl:=(List.getElem?_eq_some_iff.1 hp).1;by_cases hj:n=j
    ·subst hj;rw[zO rfl,zO hl,zO (by omega),←hn,hp];rfl
    ·rw[zG hj,ih j];by_cases h2:j<n
     ·rw[zO h2,zO (by omega)]
     ·rw[zG h2,zG (by omega)]
   ·rename_i hp
    rw[ih j];by_cases h2:j<n
    ·rw[zO h2,zO (by omega)]
    ·by_cases hj:j=n
     ·subst hj;rw[zG h2,zO (by omega),←hn,hp];rfl
     ·rw[zG h2,zG (by omega)]
theorem GoodN.open_{N:S14.N}{t:Nat}(h:GoodN N t):GoodN (S14.opened N) t where
 check:=h.check
 len:=(S14.openK_length N _).trans h.len
 xl:=h.xl
 pt:=h.pt
 ps:=fun k c p hc hp=>by
  have hp:(S14.openK N N.comps.length)[k]? = some p:=hp;have hc:N.comps[k]? = some c:=hc;have hk:=(List.getElem?_eq_some_iff.1 hc).1;rw[openK_get,zO hk]at hp;obtain⟨q,hq,rfl⟩:=Option.map_eq_some_iff.1 hp;exact(h.ps k c q hc hq).open_ hc (S14.ok_is ((S14.check_zero h.check).2.2 k c hc)).bits
theorem zrZ(G:Nat→S14.P)(ps:List S14.P):∀n j,(S14.parts1 G ps n)[j]? = if j<n∧j<ps.length then some (G j)else ps[j]?
 | 0,j=>by rw[zG (by omega)];rfl
 | n+1,j=>by
   rw[S14.parts1,List.getElem?_set,S14.parts1_length,zrZ G ps n j];by_cases hj:n=j
   ·subst hj;rw[zO rfl];by_cases hl:n<ps.length
    ·rw[zO hl,zO ⟨by omega,hl⟩]
    ·rw[zG hl,zG (by omega),yP (by omega)]
   ·rw[zG hj];by_cases hl:j<n∧j<ps.length
    ·rw[zO hl,zO ⟨by omega,hl.2⟩]
    ·rw[zG hl,zG (by omega)]
def S14.learned(N:S14.N)(bit:Int):S14.N:=⟨N.comps,S14.parts1 (S14.learnA N bit) N.parts N.comps.length,N.ctxs,S14.next N.part bit⟩
theorem next_range{p bit:Int}(h:1≤p∧p≤255)(hb:bit=0∨bit=1):1≤S14.next p bit∧S14.next p bit≤255:=by
 unfold S14.next;split<;>omega
theorem GoodN.learn{N:S14.N}{t:Nat}(h:GoodN N t)(ht:t<65536){bit:Int}(hb:bit=0∨bit=1):GoodN (S14.learned N bit) (t+1) where
 check:=h.check
 len:=(S14.parts1_length _ _ _).trans h.len
 xl:=h.xl
 pt:=next_range h.pt hb
 ps:=fun k c p hc hp=>by
  have hp:(S14.parts1 (S14.learnA N bit) N.parts N.comps.length)[k]? = some p:=hp;have hc:N.comps[k]? = some c:=hc;have hk:=(List.getElem?_eq_some_iff.1 hc).1;have hkp:k<N.parts.length:=by rw[h.len];exact hk
  rw[zrZ,zO ⟨hk,hkp⟩]at hp;cases hp;have hq:N.parts[k]? = some N.parts[k]:=zE hkp;unfold S14.learnA;rw[zeU hc,zeU hq];exact(h.ps k c _ hc hq).learn ((S14.check_zero h.check).2.2 k c hc) h.pt ht hb
def S14.withCtxs(N:S14.N)(l:List Nat):S14.N:=⟨N.comps,N.parts,l,N.part⟩
theorem GoodN.ctxs{N:S14.N}{t:Nat}(h:GoodN N t){l:List Nat}(hl:l.length=16):GoodN (S14.withCtxs N l) t:=⟨h.check,h.len,hl,h.pt,h.ps⟩
theorem mem_reps{xs:List Int}{n:Nat}{x:Int}(h:x∈zfE xs n):x∈xs:=by
 unfold zfE at h;simp only[List.mem_flatten,List.mem_replicate]at h;obtain⟨l,⟨_,rfl⟩,h⟩:=h;exact h
theorem newM_ok14{bits least:Int}(h1:1≤bits∧bits≤16)(h2:1≤least∧least≤32):S12.newM bits least=S12.start bits least:=by
 have h:S12.okN bits least=true:=by unfold S12.okN;rw[zQ h1,zQ h2];rfl
 unfold S12.newM;rw[h];rfl
theorem GoodP.fresh{c:S14.C}{k:Int}(hok:S14.ok c k=true)(hk16:k≤16):GoodP 0 c (S14.freshA c) 1:=by
 have hi:=S14.ok_is hok;have h0:OK8 S14.P0.sd:=fun x hx=>by cases hx
 have hm0:S12.Byt S14.P0.m.bytes:=fun x hx=>by cases hx
 unfold S14.freshA
 have hlim:∀l:Int,S14.has l 1 1023=true→S08.check 32768 0 l=0:=fun l hl=>by
  rw[S14.has_iff]at hl;unfold S08.check;rw[zG (by omega),zG (by omega)]
 rcases hi.kind with hk|hk|hk|hk|hk|hk|hk
 ·rw[zG (by omega),zG (by omega),zG (by omega),zG (by omega),zG (by omega)];exact⟨(zdF (.inl hk)).2 rfl,h0,hm0,zD _⟩
 ·rw[zO hk];unfold S14.ok at hok;rw[zG (by omega),zO hk]at hok;unfold S14.okDirect at hok;simp only[zS]at hok;refine⟨(zfD hk).2 ⟨rfl,okCtrs_iff.2 ⟨zaW,fun x hx=> ?_⟩⟩,h0,hm0,zD _⟩;have hx:=List.eq_of_mem_replicate hx;subst hx;exact hlim _ hok.2
 ·rw[zG (by omega),zO hk];unfold S14.ok at hok;rw[zG (by omega),zG (by omega),zO hk]at hok;unfold S14.okDirect at hok;simp only[zS]at hok;have hbn:=hi.bits;obtain⟨n,hn⟩:∃n:Nat,c.bits=n:=⟨c.bits.toNat,by omega⟩;have hG:=Good.new (n:=n) (by omega);have eB:S10.newB c.bits=c.bits:=zO hbn;have eX:S10.newX c.bits=List.replicate (16*2^n) 0:=by
   unfold S10.newX;rw[zO hbn,hn,Int.toNat_natCast]
  have h2n:(0:Int)<2^c.bits.toNat:=by
   have:((2^c.bits.toNat:Nat):Int)=2^c.bits.toNat:=by simp
   have:=zcB c.bits.toNat;omega
  unfold S14.freshH;rw[eB,eX];refine⟨(zeP hk).2 ⟨⟨⟨⟨okCtrs_iff.2 ⟨zaW,fun x hx=> ?_⟩,rfl⟩,?_⟩,?_⟩,rfl⟩,hG.ok,hm0,zD _⟩
  ·have hx:=List.eq_of_mem_replicate hx;subst hx;exact hlim _ hok.2
  ·show S10.check c.bits _=0;rw[hn];exact hG.check
  ·show(0:Int)≤0∧(0:Int)≤_;omega
 ·rw[zG (by omega),zG (by omega),zO hk];unfold S14.ok at hok;rw[zG (by omega),zG (by omega),zG (by omega),zO hk]at hok;unfold S14.okMatch at hok;simp only[zS,S14.has_iff]at hok;rw[newM_ok14 hok.1.2 hok.2];have hs:=S12.start_wf hok.1.2 hok.2;exact⟨(zgZ hk).2 ⟨⟨⟨⟨rfl,rfl⟩,rfl⟩,rfl⟩,(S12.check_iff _).2 hs.wf⟩,h0,(fun x hx=>by cases hx),zD _⟩
 ·rw[zG (by omega),zG (by omega),zG (by omega),zG (by omega),zG (by omega)];exact⟨(zdF (.inr hk)).2 rfl,h0,hm0,zD _⟩
 ·rw[zG (by omega),zG (by omega),zG (by omega),zO hk];have hm:=hi.mix hk;have hp:=zpC (n:=c.bits.toNat) (by have:=hi.bits;omega);obtain⟨q,hq⟩:∃q:Nat,c.second-c.first+1=(q:Int):=⟨(c.second-c.first+1).toNat,by omega⟩;refine⟨(zhP hk).2 ⟨⟨⟨rfl,rfl⟩,?_⟩,?_⟩,h0,hm0,zD _⟩
  ·show((List.replicate _ _).length:Int)=_;rw[zaW];simp
  ·show S13.check 16 (c.second-c.first+1) _=0;rw[hq,Int.toNat_natCast];unfold S13.check;rw[zaW,zG (by omega)];refine S13.rows_of (fun l hl=> ?_);have hl:=List.eq_of_mem_replicate hl;subst hl;refine⟨by rw[zaW],?_⟩;rw[List.any_eq_false];intro x hx;have hx:=List.eq_of_mem_replicate hx;subst hx;have hd1:0≤(65536:Int)/q:=Int.ediv_nonneg (by decide) (by omega);have hd2:(65536:Int)/q≤65536:=Int.ediv_le_self _ (by decide);unfold S13.heavy;simp;omega
 ·rw[zG (by omega),zG (by omega),zG (by omega),zG (by omega),zO hk];have hp:=zpC (n:=c.bits.toNat) (by have:=hi.bits;omega);have hl:(zfE S11.first (2^c.bits.toNat)).length=2^c.bits.toNat*33:=by rw[zeQ,S11.first_length]
  refine⟨(zfC hk).2 ⟨⟨rfl,?_⟩,zsQ ?_ ?_ ?_ (fun x hx=> ?_)⟩,h0,hm0,zD _⟩
  ·show((zfE S11.first (2^c.bits.toNat)).length:Int)=_;rw[hl,Int.natCast_mul];simp;omega
  ·rw[hl];exact Nat.mul_mod_left _ _
  ·rw[hl];omega
  ·rw[hl];omega
  ·have hx:=mem_reps hx;unfold S11.first at hx;obtain⟨i,_,rfl⟩:=List.mem_map.1 hx;have:=S06.squash_bounds (192*(i:Int)-3072);omega
def S14.newN(l:List S14.C):S14.N:=⟨l,l.map S14.freshA,List.replicate 16 0,1⟩
theorem GoodN.new{l:List S14.C}(h:S14.check l=0):GoodN (S14.newN l) 0 where
 check:=h
 len:=zaH _
 xl:=zaW
 pt:=⟨Int.le_refl 1,(by decide:(1:Int)≤255)⟩
 ps:=fun k c p hc hp=>by
  have hp:(l.map S14.freshA)[k]? = some p:=hp;have hc:l[k]? = some c:=hc;have hk:=(List.getElem?_eq_some_iff.1 hc).1;have hl:=(S14.check_zero h).2.1;rw[zaG,hc]at hp;cases hp;exact GoodP.fresh ((S14.check_zero h).2.2 k c hc) (by omega)
theorem zsW{P:Program}{Y:Array Value→Nat→Option Bool}{Q:Exit→Act→World→Prop}{S:World→Prop}{G:Act→World→Prop}{w:World}{rest:List (KU×Oper)}{o:Oper}{a:Act}(ty:TypeId)(x y:Operand)(ho:o.op = .store ty x y)(hw:Region.wanted o (Y a.tmps)=true)
 (b oo:Nat) (cells:Array Value) (hx:a.eval x = .pointer (some ⟨b,oo,none⟩)) (hy:a.eval y = .agg cells) (ht:w.there b oo cells.size) (hi:(P.info? ty).map (·.size)=some cells.size) (h1:cells.all (·.oneCell')=true)
 (h:zbN P Y Q S G rest (a.put o.dst undef) (w.setCells b oo cells.toList)):zbN P Y Q S G ((.l,o)::rest) a w:=by
 unfold zbN;rw[zO hw];exact .inl (wp_store_mid ty x y ho b oo cells hx hy ht hi h1 h)
theorem PIs.bareH{p:S14.P}{y:Lay}{w w':World}{l:List (Int×Int)}{a aT:Option Addr}{cap cT:Nat}{B:Int}{XX:List Int}(h:PIs p y w)(hb:S14.bare {p with ctrs:=[],sb:=0,sd:=[],slot:=0}=true)(hr:Rd w' a (Cts l))(ht:Tab XX aT cT w'):PIs {p with ctrs:=l,sb:=B,sd:=XX} {y with a1:=a,c1:=cap,a2:=aT,c2:=cT} w':=by
 obtain⟨_,_,h3,h4,h5,h6,h7⟩:=zfO hb;exact⟨hr,ht,h.mch.nil14 h5 h6 h7,h.mix.nil14 h3,h.apm.nil14 h4⟩
theorem zqA(c:S14.C)(N:S14.N)(L:NLay)(k:Nat)(b:Value)(hb1:b.oneCell'=true)(p:S14.P)(y:Lay)(s:Nat)(bit:Int)(w:World)(hN:NIs N L w)(hp:N.parts[k]? = some p)(hy:L.ys[k]? = some y)(pt:Nat)(hpt:N.part=(pt:Int))(h1:1≤pt)(h2:pt≤255)
 (hs:S10.getN p.sb p.sd p.slot (S14.node pt:Nat)=(s:Int)) (hsl:s<p.ctrs.length) (hcl:p.ctrs.length≤65536) (hne:S09.nextE s bit=0) (hse:S10.setE p.sb p.sd p.slot (S14.node pt:Nat) (S09.nextS s bit)=0) (hbare:S14.bare {p with ctrs:=[],sb:=0,sd:=[],slot:=0}=true) :
 Calls Tryz.prog 144 #[CV c,VV N L k b,.int .i64 bit] w fun e w'=>∃y',e = .returned (.tuple #[PV {p with ctrs:=S14.upd p.ctrs s bit c.limit,sb:=S10.setB p.sb p.sd p.slot (S14.node pt:Nat) (S09.nextS s bit),sd:=S10.setX p.sb p.sd p.slot (S14.node pt:Nat) (S09.nextS s bit)} y',.int .i64 0])∧
  PRob 0 w.heap.size {p with ctrs:=S14.upd p.ctrs s bit c.limit,sb:=S10.setB p.sb p.sd p.slot (S14.node pt:Nat) (S09.nextS s bit),sd:=S10.setX p.sb p.sd p.slot (S14.node pt:Nat) (S09.nextS s bit)} y' w'∧Below w.heap.size w w':=by
 have hk:k<N.parts.length:=(List.getElem?_eq_some_iff.1 hp).1;have hP:=hN.ps k p y hp hy;have HPt:=zB fun(W:World) (hW:Below w.heap.size w W)=>zbW N L k b hb1 W (hN.step hW) hk p y hp hy;have HSt:=zB fun(W:World) (hW:Below w.heap.size w W)=>zoR c N L k b hb1 p y W (hN.step hW) hp hy pt hpt h1 h2;rw[hs]at HSt;have HNx:=zB fun(W:World)=>next09_any (s:Int) bit W;have HUp:=zB fun(W:World) (hW:Below w.heap.size w W)=>zjY p.ctrs s hsl hcl bit c.limit y.a1 y.c1 W (hP.rc.step hW);have HNd:=zB fun(W:World)=>zoJ N L k b W pt hpt h1 h2;have HSe:=zB fun(W:World) (hW:Below w.heap.size w W)=>set10_any p.sb p.sd p.slot (S14.node pt:Nat) (S09.nextS s bit) y.a2 y.c2 W (hP.tab.step hW);have Hok:=zB (OK8.setX hP.tab.ok p.sb p.slot (S14.node pt:Nat) (S09.nextS s bit));obtain⟨ul,hul⟩:∃l,S14.upd p.ctrs s bit c.limit=l:=⟨_,rfl⟩;have hull:ul.length=p.ctrs.length:=by rw[←hul];unfold S14.upd;rw[yT]
 obtain⟨B,hB⟩:∃x,S10.setB p.sb p.sd p.slot (S14.node pt:Nat) (S09.nextS s bit)=x:=⟨_,rfl⟩;obtain⟨XX,hXX⟩:∃x,S10.setX p.sb p.sd p.slot (S14.node pt:Nat) (S09.nextS s bit)=x:=⟨_,rfl⟩;rw[hB,hXX,hse]at HSe;rw[hne]at HNx;rw[hXX]at Hok;rw[hul]at HUp;rw[hul,hB,hXX];obtain⟨nd,hnd⟩:∃x,((S14.node pt:Nat):Int)=x:=⟨_,rfl⟩;obtain⟨nx',hnx'⟩:∃x,S09.nextS s bit=x:=⟨_,rfl⟩;rw[hnd]at HNd HSe;rw[hnx']at HNx HSe;have HPI:=zB fun(a aT:Option Addr) (cap cT:Nat) (w':World) (hr:Rd w' a (Cts ul)) (ht:Tab XX aT cT w')=>hP.bareH (cap:=cap) (B:=B) hbare hr ht;have HPV1:=zB fun(a:Option Addr) (cap:Nat)=>(show yL {p with ctrs:=ul} {y with a1:=a,c1:=cap}=(yL p y).set 0 (.slice a p.ctrs.length cap) by unfold yL;simp only[hull];rfl);have HPV2:=zB fun(a aT:Option Addr) (cap cT:Nat)=>(show yL {p with ctrs:=ul,sb:=B,sd:=XX} {y with a1:=a,c1:=cap,a2:=aT,c2:=cT}=splice ((yL p y).set 0 (.slice a p.ctrs.length cap)) 1 [.int .i64 B,.slice aT XX.length cT] by unfold yL;simp only[hull];rfl);obtain⟨m,hm⟩:∃m,p.ctrs.length=m:=⟨_,rfl⟩;obtain⟨sb,hsb⟩:∃m,p.sb=m:=⟨_,rfl⟩;obtain⟨sl,hsl2⟩:∃m,p.sd.length=m:=⟨_,rfl⟩;obtain⟨so,hso⟩:∃m,p.slot=m:=⟨_,rfl⟩;unfold zhO at HSe;rw[hsb,hsl2,hso]at HSe;rw[hm]at HUp HPV2;have v0:(yL p y)[0]? = some (.slice y.a1 p.ctrs.length y.c1):=rfl;have v1:(yL p y)[1]? = some (.int .i64 p.sb):=rfl;have v2:(yL p y)[2]? = some (.slice y.a2 p.sd.length y.c2):=rfl;have v3:(yL p y)[3]? = some (.int .i64 p.slot):=rfl;rw[hm]at v0;rw[hsb]at v1;rw[hsl2]at v2;rw[hso]at v3;have hVPl:(yL p y).length=16:=rfl;have hVPo:=zaM p y;unfold PV at HPt;unfold VV at HPt HSt HNd⊢;unfold PV;obtain⟨VP,hVP⟩:∃v,yL p y=v:=⟨_,rfl⟩;rw[hVP]at HPt hVPl hVPo HPV2 v0 v1 v2 v3;have HVPl:=zB hVPl;have HVPo:=zB hVPo;have Hv:=zB (zaC v0 (zaC v1 (zaC v2 v3)));have Hb1:=zB hb1;obtain⟨nc,hnc⟩:∃n,N.comps.length=n:=⟨_,rfl⟩;obtain⟨np,hnp⟩:∃n,N.parts.length=n:=⟨_,rfl⟩;obtain⟨nx,hnx⟩:∃n,N.ctxs.length=n:=⟨_,rfl⟩;rw[hnc,hnp,hnx,hpt]at HPt HSt HNd⊢;obtain⟨W0,hW0,k1,k2,B0⟩:=zfL w c 113 [.slice L.a1 nc L.c1,.slice L.a2 np L.c2,.slice L.a3 nx L.c3,.int .i64 (pt:Int),.int .i64 (k:Int),b];have hW0s:W0.heap.size=w.heap.size+2:=by rw[←hW0];simp
 obtain⟨W1,hW1⟩:∃W,W0.alloc (.cells zP 78)=W:=⟨_,rfl⟩;have b1:Below W0.heap.size W0 W1:=by rw[←hW1];exact(zF _ _).alloc (zD _) _
 have kR:Blk W1 (w.heap.size+2) (yL S14.P0 zdO) 78:=by rw[←hW1,←hW0s];exact zeH W0
 have k2:=k2.step b1;have k1:=k1.step b1;have B1:=zA B0 b1;clear hnc hnp hnx hpt B0 b1 hVP hVPl hVPo hul hull hB hXX hnd hnx' hm hsb hsl2 hso v0 v1 v2 v3 hP hN hp hy hk hs hsl hcl hne hse hbare hb1 h1 h2 HPV1;obtain⟨kind,bits,limit,rate,first,second⟩:=c;unfold CV at HSt⊢;unfold zZ at HSt k1 hW0⊢;simp only at HSt HUp k1 hW0⊢;have hR1:=kR.lt;have hCS:Cells W1 [(⟨w.heap.size+1,0,none⟩,.slice L.a1 nc L.c1),(⟨w.heap.size+1,1,none⟩,.slice L.a2 np L.c2),(⟨w.heap.size+1,2,none⟩,.slice L.a3 nx L.c3),(⟨w.heap.size+1,3,none⟩,.int .i64 (pt:Int)),(⟨w.heap.size+1,4,none⟩,.int .i64 (k:Int)),(⟨w.heap.size+1,5,none⟩,b),(⟨w.heap.size,0,none⟩,.int .i64 kind),(⟨w.heap.size,1,none⟩,.int .i64 bits),(⟨w.heap.size,2,none⟩,.int .i64 limit),(⟨w.heap.size,3,none⟩,.int .i64 rate),(⟨w.heap.size,4,none⟩,.int .i64 first),(⟨w.heap.size,5,none⟩,.int .i64 second)]:=⟨k2.cell 0,k2.cell 1,k2.cell 2,k2.cell 3,k2.cell 4,k2.cell 5,k1.cell 0,k1.cell 1,k1.cell 2,k1.cell 3,k1.cell 4,k1.cell 5,yF⟩;clear k1;go_enter Tryz.func144,Tryz.ntmps144;go_wp2_with (first
  | (rw[hW0])
  | (refine zaB 78 zP zcS (by rfl) (by rfl) ?_;first|rw[hW1]|skip))
 refine zbU 7 1 (.read 0 (.read 2 (.read 3 (.two (.one 1 (.two (.one 4 (.one 5 (.one 6 .done))) (.one 5 (.one 4 (.one 6 .done))))) (.one 5 (.one 1 (.one 4 (.one 6 .done)))))))) _ _ o0P (fun K=>Below W1.heap.size W1 K∧Cells K [(⟨w.heap.size+1,0,none⟩,.slice L.a1 nc L.c1),(⟨w.heap.size+1,1,none⟩,.slice L.a2 np L.c2),(⟨w.heap.size+1,2,none⟩,.slice L.a3 nx L.c3),(⟨w.heap.size+1,3,none⟩,.int .i64 (pt:Int)),(⟨w.heap.size+1,4,none⟩,.int .i64 (k:Int)),(⟨w.heap.size+1,5,none⟩,b),(⟨w.heap.size,0,none⟩,.int .i64 kind),(⟨w.heap.size,1,none⟩,.int .i64 bits),(⟨w.heap.size,2,none⟩,.int .i64 limit),(⟨w.heap.size,3,none⟩,.int .i64 rate),(⟨w.heap.size,4,none⟩,.int .i64 first),(⟨w.heap.size,5,none⟩,.int .i64 second)]) (by kernel_rfl) (yB 7 _).symm (by kernel_rfl) (by kernel_rfl) (by kernel_rfl) (by kernel_rfl) (⟨(zF _ _).drew,hCS⟩) (fun Y Q4 F4 hY hF=> ?_);simp only[Plan.map,ltc,ltz,ldc,ldz,List.getD_cons_zero,List.getD_cons_succ]
 repeat
  apply zU (by rw[hY];rfl)
  ·intro w2 hS2;(try simp only[Keeps,zbT,Cells]at hS2);go_simp;with_reducible rfl
  simp only[zuI]
 have fin:∀(b8:Nat) (wS:World),W1.heap.size≤b8→Blk wS b8 VP 78→Below W1.heap.size W1 wS→F4 {tmps:=#[.agg #[.int .i64 kind,.int .i64 bits,.int .i64 limit,.int .i64 rate,.int .i64 first,.int .i64 second],.agg #[.slice L.a1 nc L.c1,.slice L.a2 np L.c2,.slice L.a3 nx L.c3,.int .i64 (pt:Int),.int .i64 (k:Int),b],.int .i64 bit,.pointer (some ⟨w.heap.size,0,none⟩),.pointer (some ⟨(w.heap.size+1),0,none⟩),undef,.pointer (some ⟨(w.heap.size+2),0,none⟩),.int .i64 0,.pointer (some ⟨b8,0,none⟩),undef,undef,undef,.agg #[.slice L.a1 nc L.c1,.slice L.a2 np L.c2,.slice L.a3 nx L.c3,.int .i64 (pt:Int),.int .i64 (k:Int),b],.agg VP.toArray,.agg #[.int .i64 kind,.int .i64 bits,.int .i64 limit,.int .i64 rate,.int .i64 first,.int .i64 second],.agg #[.slice L.a1 nc L.c1,.slice L.a2 np L.c2,.slice L.a3 nx L.c3,.int .i64 (pt:Int),.int .i64 (k:Int),b],.int .i64 (s:Int),undef,undef,undef,undef,undef,undef,undef,undef,undef,undef,undef,undef,undef,undef,undef,undef,undef,undef,undef,undef,undef,undef,undef,undef,undef,undef,undef,undef,undef,undef,undef,undef,undef],defers:=[]} wS:=by
  intro b8 wS zb8 E3 hbS;refine hF _ _ (fun K hK=> ?_);clear hF hY;have HK:=zB hK;clear hK;go_wp2_with fail;refine OnlyK.mk (HK.out _ _ ?_);have kR3:=kR.step hbS;have k23:=k2.step hbS;have B3:=zA B1 hbS;have lim3:wS.cell? ⟨w.heap.size,2,none⟩=some (.int .i64 limit):=(Cells.step hbS hCS).2.2.2.2.2.2.2.2.1;obtain⟨v0,v1,v2,v3⟩:=Hv.out;clear hbS kR k2 B1;go_wp2_with fail;refine(HNx.out _).mono ?_;rintro e w4 ⟨rfl,hb4⟩;have E4:=E3.step hb4;have kR4:=kR3.step hb4;have k24:=k23.step hb4;have B4:=zA B3 hb4;have lim4:=(hb4.cell (zL lim3)).trans lim3;have e40:=(E4.cell 0).trans v0;clear E3 kR3 k23 B3 lim3 hb4;go_wp2_with fail;refine(HUp.out _ B4).mono ?_;rintro e w5 ⟨a,cap,rfl,hfar,hrd,hb5⟩;have E5:=E4.step hb5;have kR5:=kR4.step hb5;have k25:=k24.step hb5;have B5:=zA B4 hb5;have e50:=(E5.cell 0).trans v0;have f50:=E5.free 0;have hz4:b8<w4.heap.size:=E4.lt;have E6:=E5.set 0 (.slice a m cap);have kR6:=kR5.other b8 0 (.slice a m cap) (by omega);have k26:=k25.other b8 0 (.slice a m cap) (by omega);have gA:=zaJ w5 b8 0 (.slice a m cap);have hrd6:=hrd.keptRow gA (fun g o e=>by have:=hfar g o e;omega);have B6:=B5.trans (yG gA (by omega) B5.size);have hs6:w5.heap.size≤(w5.setCell ⟨b8,0,none⟩ (.slice a m cap)).heap.size:=gA.size;obtain⟨w6,hw6⟩:∃W,w5.setCell ⟨b8,0,none⟩ (.slice a m cap)=W:=⟨_,rfl⟩;rw[hw6]at E6 kR6 k26 hrd6 B6 hs6;have hfar6:∀g o,a=some ⟨g,o,none⟩→w.heap.size+3≤g∧g≠b8:=fun g o e=>by have:=hfar g o e;omega
  have Hrd6:=zB hrd6;have Hfar6:=zB hfar6;clear E4 kR4 k24 B4 e40 lim4 hb5 hfar hrd gA E5 kR5 k25 hrd6 hfar6 hs6;have e61:w6.cell? ⟨b8,1,none⟩=some (.int .i64 sb):=(E6.cell 1).trans (by rw[List.getElem?_set_ne (by omega)];exact v1);have e62:w6.cell? ⟨b8,2,none⟩=some (.slice y.a2 sl y.c2):=(E6.cell 2).trans (by rw[List.getElem?_set_ne (by omega)];exact v2);have e63:w6.cell? ⟨b8,3,none⟩=some (.int .i64 so):=(E6.cell 3).trans (by rw[List.getElem?_set_ne (by omega)];exact v3);have hC6:zbT [(⟨w.heap.size+1,0,none⟩,.slice L.a1 nc L.c1),(⟨w.heap.size+1,1,none⟩,.slice L.a2 np L.c2),(⟨w.heap.size+1,2,none⟩,.slice L.a3 nx L.c3),(⟨w.heap.size+1,3,none⟩,.int .i64 (pt:Int)),(⟨w.heap.size+1,4,none⟩,.int .i64 (k:Int)),(⟨w.heap.size+1,5,none⟩,b),(⟨b8,1,none⟩,.int .i64 sb),(⟨b8,2,none⟩,.slice y.a2 sl y.c2),(⟨b8,3,none⟩,.int .i64 so)] w6.drew:=⟨k26.cell 0,k26.cell 1,k26.cell 2,k26.cell 3,k26.cell 4,k26.cell 5,e61,e62,e63,yF⟩;clear e61 e62 e63 v0 v1 v2 v3 k26;go_wp2_with (first|(rw[hw6])|fail);refine zbL 12 13 1 [(.p,[true]),(.r,[false,true]),(.p,[false,false,true]),(.r,[false,false,false,true,true]),(.p,[false,false,false,false,false,false,true]),(.e,[false,false,false,false,false,true]),(.e,[false,false,false,false,false,false,false,true]),(.p,[false,false,false,false,false,false,false,false,true,true,true,true]),(.l,[false,false,false,false,false,false,false,false,false,false,false,false,true])] _ _ (zbT [(⟨w.heap.size+1,0,none⟩,.slice L.a1 nc L.c1),(⟨w.heap.size+1,1,none⟩,.slice L.a2 np L.c2),(⟨w.heap.size+1,2,none⟩,.slice L.a3 nx L.c3),(⟨w.heap.size+1,3,none⟩,.int .i64 (pt:Int)),(⟨w.heap.size+1,4,none⟩,.int .i64 (k:Int)),(⟨w.heap.size+1,5,none⟩,b),(⟨b8,1,none⟩,.int .i64 sb),(⟨b8,2,none⟩,.slice y.a2 sl y.c2),(⟨b8,3,none⟩,.int .i64 so)]) (by kernel_rfl) (yB 13 _).symm (by kernel_rfl) (by kernel_rfl) (by kernel_rfl) (by kernel_rfl) (hC6) (fun Y Q4 F4 hY hF=> ?_);simp only[zeR,lfc,lfn,ltc,ltz,ldc,ldz,zeE,zdE,zfU,lmc,lmn,lca,lna,lan]
  repeat
   first
    | (apply zaR (by rw[hY];rfl)
       ·intro w2;go_simp;with_reducible rfl
       simp only[zuI])
    | (apply zaQ (by rw[hY];rfl)
       ·intro w2 hS2;(try simp only[Keeps,zbT,Cells]at hS2);go_simp;with_reducible rfl
       simp only[zuI])
  have hbu0:Below w6.heap.size w6 w6.drew:=(zF _ _).drew;apply zfR (by rw[hY];rfl)
  ·go_simp;with_reducible exact⟨rfl,rfl⟩
  refine(HNd.out _).mono ?_;rintro e u1 ⟨rfl,hbu10⟩;have hbu1:=zA hbu0 hbu10;refine⟨_,rfl,Cells.step hbu1 hC6,?_⟩;simp only[zuI]
  repeat
   first
    | (apply zaR (by rw[hY];rfl)
       ·intro w2;go_simp;with_reducible rfl
       simp only[zuI])
    | (apply zaQ (by rw[hY];rfl)
       ·intro w2 hS2;(try simp only[Keeps,zbT,Cells]at hS2);go_simp;with_reducible rfl
       simp only[zuI])
  apply zfR (by rw[hY];rfl)
  ·go_simp;with_reducible exact⟨rfl,rfl⟩
  refine(HSe.out _ (zA B6 hbu1)).mono ?_;rintro e u2 ⟨V,rfl,TOv,hbu20⟩;have hbu2:=zA hbu1 hbu20;obtain⟨aT,cT,rfl,hT,hF8⟩:=TOv.open Hok.out;have hsz1:=hbu1.size;have hE6:=E6.lt;unfold zhO;refine⟨_,rfl,Cells.step hbu2 hC6,?_⟩;simp only[zuI]
  repeat
   first
    | (apply zaR (by rw[hY];rfl)
       ·intro w2;go_simp;with_reducible rfl
       simp only[zuI])
    | (apply zaQ (by rw[hY];rfl)
       ·intro w2 hS2;(try simp only[Keeps,zbT,Cells]at hS2);go_simp;with_reducible rfl
       simp only[zuI])
  have E7:=E6.step hbu2;have kR7:=kR6.step hbu2;have B7:=zA B6 hbu2;have hrd7:=Hrd6.out.step hbu2;have hl7:(VP.set 0 (.slice a m cap)).length=16:=by rw[yT];exact HVPl.out
  refine zsW 68 (.tmp 47) (.tmp 45) (by rfl) (by rw[hY];rfl) b8 1 #[.int .i64 B,.slice aT XX.length cT] (by rfl) (by rfl) (E7.there14 (o:=1) (n:=2) (by rw[hl7];decide)) zpX (by simp[Value.oneCell']) ?_;simp only[zuI];have E8:=E7.setCells [.int .i64 B,.slice aT XX.length cT] 1 (by rw[hl7];exact(by decide:1+2≤16));rw[←HPV2.out a aT cap cT]at E8;have g8:=yZ b8 [.int .i64 B,.slice aT XX.length cT] 1 u2;have kR8:=kR7.keptRow g8 (by intro e;have:=zK e;omega);have hk8:KepX (fun k=>k=b8) u2 (u2.setCells b8 1 [.int .i64 B,.slice aT XX.length cT]):=KepX.row g8 (fun b e=>.inl (zK e).symm);have hrd8:=hrd7.kepX hk8 (fun g o e=>(Hfar6.out g o e).2);have hT8:=hT.kepX hk8 (fun g o e=>by have:=hF8 g o e;show¬g=b8;omega);have B8:=B7.trans (yG g8 (by omega) B7.size);have hF9:Fr aT (w.heap.size+3):=hF8.mono (by omega);obtain⟨u3,hu3⟩:∃W,u2.setCells b8 1 [.int .i64 B,.slice aT XX.length cT]=W:=⟨_,rfl⟩;rw[hu3]at E8 kR8 hrd8 hT8 B8;have hu3':u2.setCells b8 1 (#[.int .i64 B,.slice aT XX.length cT]:Array Value).toList=u3:=hu3;rw[hu3'];have Hrd8:=zB hrd8;have HT8:=zB hT8;have HF9:=zB hF9;clear E6 E7 kR6 kR7 B6 B7 hrd7 g8 hk8 hrd8 hT8 hF9 hF8 hT TOv hbu20 hbu10 hbu2 hbu1 hbu0 hC6 hu3 hu3';refine zcR (hF.out _ _ (fun K hK=> ?_));clear hF hY;go_wp2_with fail;refine OnlyK.mk (hK.out _ _ ?_);clear hK;go_wp2_with (first
   | (refine yA 78 (.tmp 8) (by rfl) (by rfl) b8 (by rfl) (yL {p with ctrs:=ul,sb:=B,sd:=XX} {y with a1:=a,c1:=cap,a2:=aT,c2:=cT}) 78 E8 _ Tryz.underlying78 rfl (info_P.trans rfl) ?_)
   | (refine zT 78 (.tmp 6) (.tmp 48) (by rfl) (by rfl) (w.heap.size+2) (by rfl) (yL {p with ctrs:=ul,sb:=B,sd:=XX} {y with a1:=a,c1:=cap,a2:=aT,c2:=cT}) (by rfl) _ 78 kR8 (info_P.trans rfl) rfl (zaM _ _) ?_;intro wL EL gL sL))
  have hL:=run_loadVar_mid wL _ 0 _ _ _ EL.cells Tryz.underlying78 rfl (info_P.trans rfl);refine bodyPost_ret (v:=.tuple #[.agg (yL {p with ctrs:=ul,sb:=B,sd:=XX} {y with a1:=a,c1:=cap,a2:=aT,c2:=cT}).toArray,.int .i64 0]) ?_ rfl ?_
  ·exact zaI (show Tryz.f144.results = #[.cell 6 78,.tmp 7]from rfl) (p:=⟨w.heap.size+2,0,none⟩) rfl rfl hL
  ·refine⟨{y with a1:=a,c1:=cap,a2:=aT,c2:=cT},rfl,fun w' hk=> ?_,B8.trans (yG gL (by omega) B8.size)⟩;have hX:KepX (fun k=>k<w.heap.size+3) _ w':=(KepX.row gL (fun b e=>.inl (by show b<_;have:=zK e;omega))).trans (hk.toX14.mono0 (by omega));exact HPI.out a aT cap cT w' (Hrd8.out.kepX hX (fun g o e=>by have:=(Hfar6.out g o e).1;show¬g<_;omega)) (HT8.out.kepX hX (fun g o e=>by have:=HF9.out g o e;show¬g<_;omega))
 have hbv0:Below W1.heap.size W1 W1.drew:=(zF _ _).drew;obtain⟨v0,hv0⟩:∃v,W1.drew=v:=⟨_,rfl⟩;rw[hv0]at hbv0⊢;refine zaT ?_ ?_
 ·skip
  apply yH (by rw[hY];rfl)
  ·go_simp;with_reducible exact⟨rfl,rfl⟩
  refine(HPt.out _ (zA B1 hbv0)).mono ?_;rintro e v1 ⟨rfl,hbv10⟩;have hbv1:=zA hbv0 hbv10;clear hbv10;refine⟨_,rfl,⟨hbv1,Cells.step hbv1 hCS⟩,?_⟩;simp only[zuI];refine zaT ?_ ?_
  ·skip
   apply yH (by rw[hY];rfl)
   ·go_simp;with_reducible exact⟨rfl,rfl⟩
   refine(HSt.out _ (zA B1 hbv1)).mono ?_;rintro e v2 ⟨rfl,hbv20⟩;have hbv2:=zA hbv1 hbv20;clear hbv20;refine⟨_,rfl,⟨hbv2,Cells.step hbv2 hCS⟩,?_⟩;simp only[zuI];have hbv30:Below v2.heap.size v2 (v2.alloc (.cells #[.slice none 0 0,.int .i64 0,.slice none 0 0,.int .i64 0,.int .i64 0,.int .i64 0,.slice none 0 0,.slice none 0 0,.int .i64 0,.int .i64 0,.int .i64 0,.int .i64 0,.slice none 0 0,.int .i64 0,.slice none 0 0,.slice none 0 0] 78)):=(zF _ _).alloc (zD _) _;have hbv3:=zA hbv2 hbv30;refine yR (by rw[hY];rfl) (by go_simp;first|with_reducible exact⟨rfl,rfl⟩|with_reducible rfl) ((show Below W1.heap.size W1 (v2.alloc (.cells #[.slice none 0 0,.int .i64 0,.slice none 0 0,.int .i64 0,.int .i64 0,.int .i64 0,.slice none 0 0,.slice none 0 0,.int .i64 0,.int .i64 0,.int .i64 0,.int .i64 0,.slice none 0 0,.int .i64 0,.slice none 0 0,.slice none 0 0] 78))∧Cells (v2.alloc (.cells #[.slice none 0 0,.int .i64 0,.slice none 0 0,.int .i64 0,.int .i64 0,.int .i64 0,.slice none 0 0,.slice none 0 0,.int .i64 0,.int .i64 0,.int .i64 0,.int .i64 0,.slice none 0 0,.int .i64 0,.slice none 0 0,.slice none 0 0] 78)) [(⟨w.heap.size+1,0,none⟩,.slice L.a1 nc L.c1),(⟨w.heap.size+1,1,none⟩,.slice L.a2 np L.c2),(⟨w.heap.size+1,2,none⟩,.slice L.a3 nx L.c3),(⟨w.heap.size+1,3,none⟩,.int .i64 (pt:Int)),(⟨w.heap.size+1,4,none⟩,.int .i64 (k:Int)),(⟨w.heap.size+1,5,none⟩,b),(⟨w.heap.size,0,none⟩,.int .i64 kind),(⟨w.heap.size,1,none⟩,.int .i64 bits),(⟨w.heap.size,2,none⟩,.int .i64 limit),(⟨w.heap.size,3,none⟩,.int .i64 rate),(⟨w.heap.size,4,none⟩,.int .i64 first),(⟨w.heap.size,5,none⟩,.int .i64 second)]from⟨hbv3,Cells.step hbv3 hCS⟩)) ?_;simp only[zuI];have kN:=Blk.new v2 [.slice none 0 0,.int .i64 0,.slice none 0 0,.int .i64 0,.int .i64 0,.int .i64 0,.slice none 0 0,.slice none 0 0,.int .i64 0,.int .i64 0,.int .i64 0,.int .i64 0,.slice none 0 0,.int .i64 0,.slice none 0 0,.slice none 0 0] 78;have zN:W1.heap.size≤v2.heap.size:=hbv2.size;obtain⟨b8,hb8⟩:∃x,v2.heap.size=x:=⟨_,rfl⟩;clear hbv30;rw[hb8]at kN zN⊢;obtain⟨v3,hv3⟩:∃v,(v2.alloc (.cells #[.slice none 0 0,.int .i64 0,.slice none 0 0,.int .i64 0,.int .i64 0,.int .i64 0,.slice none 0 0,.slice none 0 0,.int .i64 0,.int .i64 0,.int .i64 0,.int .i64 0,.slice none 0 0,.int .i64 0,.slice none 0 0,.slice none 0 0] 78))=v:=⟨_,rfl⟩;rw[hv3]at hbv3 kN⊢;refine zaA 78 (.tmp 8) (.tmp 13) (by rfl) (by rw[hY];rfl) b8 (by rfl) VP (by rfl) _ 78 kN (info_P.trans (yS some HVPl.out.symm)) HVPl.out.symm HVPo.out ?_;intro wS ES gS sS;have hbS:Below W1.heap.size W1 wS:=hbv3.trans (yG gS zN hbv3.size);refine⟨⟨hbS,Cells.step hbS hCS⟩,?_⟩;simp only[zuI];exact yY (fin _ wS zN ES hbS)
  ·skip
   have hbv20:Below v1.heap.size v1 (v1.alloc (.cells #[.slice none 0 0,.int .i64 0,.slice none 0 0,.int .i64 0,.int .i64 0,.int .i64 0,.slice none 0 0,.slice none 0 0,.int .i64 0,.int .i64 0,.int .i64 0,.int .i64 0,.slice none 0 0,.int .i64 0,.slice none 0 0,.slice none 0 0] 78)):=(zF _ _).alloc (zD _) _;have hbv2:=zA hbv1 hbv20;refine yR (by rw[hY];rfl) (by go_simp;first|with_reducible exact⟨rfl,rfl⟩|with_reducible rfl) ((show Below W1.heap.size W1 (v1.alloc (.cells #[.slice none 0 0,.int .i64 0,.slice none 0 0,.int .i64 0,.int .i64 0,.int .i64 0,.slice none 0 0,.slice none 0 0,.int .i64 0,.int .i64 0,.int .i64 0,.int .i64 0,.slice none 0 0,.int .i64 0,.slice none 0 0,.slice none 0 0] 78))∧Cells (v1.alloc (.cells #[.slice none 0 0,.int .i64 0,.slice none 0 0,.int .i64 0,.int .i64 0,.int .i64 0,.slice none 0 0,.slice none 0 0,.int .i64 0,.int .i64 0,.int .i64 0,.int .i64 0,.slice none 0 0,.int .i64 0,.slice none 0 0,.slice none 0 0] 78)) [(⟨w.heap.size+1,0,none⟩,.slice L.a1 nc L.c1),(⟨w.heap.size+1,1,none⟩,.slice L.a2 np L.c2),(⟨w.heap.size+1,2,none⟩,.slice L.a3 nx L.c3),(⟨w.heap.size+1,3,none⟩,.int .i64 (pt:Int)),(⟨w.heap.size+1,4,none⟩,.int .i64 (k:Int)),(⟨w.heap.size+1,5,none⟩,b),(⟨w.heap.size,0,none⟩,.int .i64 kind),(⟨w.heap.size,1,none⟩,.int .i64 bits),(⟨w.heap.size,2,none⟩,.int .i64 limit),(⟨w.heap.size,3,none⟩,.int .i64 rate),(⟨w.heap.size,4,none⟩,.int .i64 first),(⟨w.heap.size,5,none⟩,.int .i64 second)]from⟨hbv2,Cells.step hbv2 hCS⟩)) ?_;simp only[zuI];have kN:=Blk.new v1 [.slice none 0 0,.int .i64 0,.slice none 0 0,.int .i64 0,.int .i64 0,.int .i64 0,.slice none 0 0,.slice none 0 0,.int .i64 0,.int .i64 0,.int .i64 0,.int .i64 0,.slice none 0 0,.int .i64 0,.slice none 0 0,.slice none 0 0] 78;have zN:W1.heap.size≤v1.heap.size:=hbv1.size;obtain⟨b8,hb8⟩:∃x,v1.heap.size=x:=⟨_,rfl⟩;clear hbv20;rw[hb8]at kN zN⊢;obtain⟨v2,hv2⟩:∃v,(v1.alloc (.cells #[.slice none 0 0,.int .i64 0,.slice none 0 0,.int .i64 0,.int .i64 0,.int .i64 0,.slice none 0 0,.slice none 0 0,.int .i64 0,.int .i64 0,.int .i64 0,.int .i64 0,.slice none 0 0,.int .i64 0,.slice none 0 0,.slice none 0 0] 78))=v:=⟨_,rfl⟩;rw[hv2]at hbv2 kN⊢;apply yH (by rw[hY];rfl)
   ·go_simp;with_reducible exact⟨rfl,rfl⟩
   refine(HSt.out _ (zA B1 hbv2)).mono ?_;rintro e v3 ⟨rfl,hbv30⟩;have hbv3:=zA hbv2 hbv30;have kN:=kN.step hbv30;clear hbv30;refine⟨_,rfl,⟨hbv3,Cells.step hbv3 hCS⟩,?_⟩;simp only[zuI];refine zaA 78 (.tmp 8) (.tmp 13) (by rfl) (by rw[hY];rfl) b8 (by rfl) VP (by rfl) _ 78 kN (info_P.trans (yS some HVPl.out.symm)) HVPl.out.symm HVPo.out ?_;intro wS ES gS sS;have hbS:Below W1.heap.size W1 wS:=hbv3.trans (yG gS zN hbv3.size);refine⟨⟨hbS,Cells.step hbS hCS⟩,?_⟩;simp only[zuI];exact yY (fin _ wS zN ES hbS)
 ·skip
  have hbv10:Below v0.heap.size v0 (v0.alloc (.cells #[.slice none 0 0,.int .i64 0,.slice none 0 0,.int .i64 0,.int .i64 0,.int .i64 0,.slice none 0 0,.slice none 0 0,.int .i64 0,.int .i64 0,.int .i64 0,.int .i64 0,.slice none 0 0,.int .i64 0,.slice none 0 0,.slice none 0 0] 78)):=(zF _ _).alloc (zD _) _;have hbv1:=zA hbv0 hbv10;refine yR (by rw[hY];rfl) (by go_simp;first|with_reducible exact⟨rfl,rfl⟩|with_reducible rfl) ((show Below W1.heap.size W1 (v0.alloc (.cells #[.slice none 0 0,.int .i64 0,.slice none 0 0,.int .i64 0,.int .i64 0,.int .i64 0,.slice none 0 0,.slice none 0 0,.int .i64 0,.int .i64 0,.int .i64 0,.int .i64 0,.slice none 0 0,.int .i64 0,.slice none 0 0,.slice none 0 0] 78))∧Cells (v0.alloc (.cells #[.slice none 0 0,.int .i64 0,.slice none 0 0,.int .i64 0,.int .i64 0,.int .i64 0,.slice none 0 0,.slice none 0 0,.int .i64 0,.int .i64 0,.int .i64 0,.int .i64 0,.slice none 0 0,.int .i64 0,.slice none 0 0,.slice none 0 0] 78)) [(⟨w.heap.size+1,0,none⟩,.slice L.a1 nc L.c1),(⟨w.heap.size+1,1,none⟩,.slice L.a2 np L.c2),(⟨w.heap.size+1,2,none⟩,.slice L.a3 nx L.c3),(⟨w.heap.size+1,3,none⟩,.int .i64 (pt:Int)),(⟨w.heap.size+1,4,none⟩,.int .i64 (k:Int)),(⟨w.heap.size+1,5,none⟩,b),(⟨w.heap.size,0,none⟩,.int .i64 kind),(⟨w.heap.size,1,none⟩,.int .i64 bits),(⟨w.heap.size,2,none⟩,.int .i64 limit),(⟨w.heap.size,3,none⟩,.int .i64 rate),(⟨w.heap.size,4,none⟩,.int .i64 first),(⟨w.heap.size,5,none⟩,.int .i64 second)]from⟨hbv1,Cells.step hbv1 hCS⟩)) ?_;simp only[zuI];have kN:=Blk.new v0 [.slice none 0 0,.int .i64 0,.slice none 0 0,.int .i64 0,.int .i64 0,.int .i64 0,.slice none 0 0,.slice none 0 0,.int .i64 0,.int .i64 0,.int .i64 0,.int .i64 0,.slice none 0 0,.int .i64 0,.slice none 0 0,.slice none 0 0] 78;have zN:W1.heap.size≤v0.heap.size:=hbv0.size;obtain⟨b8,hb8⟩:∃x,v0.heap.size=x:=⟨_,rfl⟩;clear hbv10;rw[hb8]at kN zN⊢;obtain⟨v1,hv1⟩:∃v,(v0.alloc (.cells #[.slice none 0 0,.int .i64 0,.slice none 0 0,.int .i64 0,.int .i64 0,.int .i64 0,.slice none 0 0,.slice none 0 0,.int .i64 0,.int .i64 0,.int .i64 0,.int .i64 0,.slice none 0 0,.int .i64 0,.slice none 0 0,.slice none 0 0] 78))=v:=⟨_,rfl⟩;rw[hv1]at hbv1 kN⊢;apply yH (by rw[hY];rfl)
  ·go_simp;with_reducible exact⟨rfl,rfl⟩
  refine(HPt.out _ (zA B1 hbv1)).mono ?_;rintro e v2 ⟨rfl,hbv20⟩;have hbv2:=zA hbv1 hbv20;have kN:=kN.step hbv20;clear hbv20;refine⟨_,rfl,⟨hbv2,Cells.step hbv2 hCS⟩,?_⟩;simp only[zuI];apply yH (by rw[hY];rfl)
  ·go_simp;with_reducible exact⟨rfl,rfl⟩
  refine(HSt.out _ (zA B1 hbv2)).mono ?_;rintro e v3 ⟨rfl,hbv30⟩;have hbv3:=zA hbv2 hbv30;have kN:=kN.step hbv30;clear hbv30;refine⟨_,rfl,⟨hbv3,Cells.step hbv3 hCS⟩,?_⟩;simp only[zuI];refine zaA 78 (.tmp 8) (.tmp 13) (by rfl) (by rw[hY];rfl) b8 (by rfl) VP (by rfl) _ 78 kN (info_P.trans (yS some HVPl.out.symm)) HVPl.out.symm HVPo.out ?_;intro wS ES gS sS;have hbS:Below W1.heap.size W1 wS:=hbv3.trans (yG gS zN hbv3.size);refine⟨⟨hbS,Cells.step hbS hCS⟩,?_⟩;simp only[zuI];exact yY (fin _ wS zN ES hbS)
theorem fresh_all(l:List S14.C)(hl:l.length≤16):zmO l S14.freshA:=fun k c hc hok W=>by
 have hi:=S14.ok_is hok;have hk:=(List.getElem?_eq_some_iff.1 hc).1;unfold zsU S14.freshA;rcases hi.kind with h|h|h|h|h|h|h
 ·rw[zO h,zG (by omega),zG (by omega),zG (by omega),zG (by omega),zG (by omega)];exact(zhI c W).mono fun e w' h=>⟨zdO,h.1,PRob.zero _ _ _,h.2⟩
 ·rw[zG (by omega),zO h,zO h];exact ziY c c.bits.toNat _ (by have:=hi.bits;omega) (zaY hi.bits.1) rfl W
 ·rw[zG (by omega),zG (by omega),zO h,zG (by omega),zO h];exact zqB c W
 ·rw[zG (by omega),zG (by omega),zG (by omega),zO h,zG (by omega),zG (by omega),zO h];exact zpT c W
 ·rw[zG (by omega),zG (by omega),zG (by omega),zG (by omega),zO h,zG (by omega),zG (by omega),zG (by omega),zG (by omega),zG (by omega)];exact(ziF c W).mono fun e w' h=>⟨zdO,h.1,PRob.zero _ _ _,h.2⟩
 ·rw[zG (by omega),zG (by omega),zG (by omega),zG (by omega),zG (by omega),zO h,zG (by omega),zG (by omega),zG (by omega),zO h];have hm:=hi.mix h;have H:=ztM c c.bits.toNat _ (c.second-c.first+1).toNat (by have:=hi.bits;omega) (zaY hi.bits.1) rfl ⟨hm.1,hm.2.1,by omega⟩ (zaY (by omega)) (by omega) W;rw[←zaY (by omega)]at H;exact H
 ·rw[zG (by omega),zG (by omega),zG (by omega),zG (by omega),zG (by omega),zG (by omega),zG (by omega),zG (by omega),zG (by omega),zG (by omega),zO h];exact zoZ c c.bits.toNat _ (by have:=hi.bits;omega) (zaY hi.bits.1) rfl W
theorem rate14{c:S14.C}{k:Int}(h:c.kind=5∨c.kind=6)(hok:S14.ok c k=true):1≤c.rate∧c.rate≤255:=by
 unfold S14.ok at hok;rcases h with h|h
 ·rw[zG (by omega),zG (by omega),zG (by omega),zG (by omega),zG (by omega),zO h]at hok;unfold S14.okMix at hok;simp only[zS,S14.has_iff]at hok;omega
 ·rw[zG (by omega),zG (by omega),zG (by omega),zG (by omega),zG (by omega),zG (by omega),zO h]at hok;unfold S14.okRefine at hok;simp only[zS,S14.has_iff]at hok;omega
theorem learnF_all{N:S14.N}{t:Nat}(hg:GoodN N t)(ht:t<65536){bit:Int}(hb:bit=0∨bit=1)(L:NLay)(w:World)(hN:NIs N L w):zmN N L w (S14.outA N) (S14.learnA N bit) bit:=fun k c hc a W hW hrd=>by
 have h0:=hg.net;obtain⟨p,y,hp,hy,hP,hk1,hk2,hok,hr,hp1,hp2⟩:=sees14 hN h0 hc;have hi:=S14.ok_is hok;have hG:=hg.ps k c p hc hp;have hO:=S14.outs_in (out_all N L w hN h0) k (Nat.le_of_lt (List.getElem?_eq_some_iff.1 hc).1);have hNW:=hN.step hW;have hpt:=zaY (b:=N.part) (by omega);have hk16:k<16:=by rw[←hg.xl];exact hk2
 unfold S14.learnA S14.learnP LearnF;rw[zeU hc,zeU hp];rcases hi.kind with h|h|h|h|h|h|h
 ·rw[zO h,zG (by omega),zG (by omega),zG (by omega),zG (by omega),zG (by omega)];exact(znW N L k c _ rfl bit W hNW hk1 p y hp hy).mono fun e w' h2=>⟨y,h2.1,fun w2 _=>hP.bare14 ((zdF (.inl h)).1 hr),h2.2⟩
 ·rw[zG (by omega),zO h,zO h];exact zqH c N L k _ rfl p y c.bits.toNat bit W ((zfD h).1 hr).1 hNW hc hp hy hk2 N.part.toNat hpt (by omega) (zaY hi.bits.1) (by have:=hi.bits;omega) (okCtrs_iff.1 ((zfD h).1 hr).2).1
 ·rw[zG (by omega),zG (by omega),zO h,zG (by omega),zO h];obtain⟨g1,g2,g3,g4,g5,g6⟩:=hG.hist h hg.pt hb;exact zqA c N L k _ rfl p y (S14.st N p) bit W hNW hp hy N.part.toNat hpt (by omega) (by omega) g1 (by omega) (by omega) g4 g6 ((zeP h).1 hr).2
 ·rw[zG (by omega),zG (by omega),zG (by omega),zO h,zG (by omega),zG (by omega),zO h];obtain⟨⟨⟨⟨h1,h2⟩,h3⟩,h4⟩,h5⟩:=(zgZ h).1 hr;exact zpS c N L k _ rfl p y bit W hNW hp hy (S12.bitE_ok ((S12.check_iff p.m).1 h5) hb (by have:=hG.few;omega)) h1
 ·rw[zG (by omega),zG (by omega),zG (by omega),zG (by omega),zO h,zG (by omega),zG (by omega),zG (by omega),zG (by omega),zG (by omega)];exact(zqV N L k c _ rfl bit W hNW hk1 p y hp hy).mono fun e w' h2=>⟨y,h2.1,fun w2 _=>hP.bare14 ((zdF (.inr h)).1 hr),h2.2⟩
 ·have hm:=hi.mix h;obtain⟨g,o,rfl,_⟩:=hrd (fun e=>by have h1:=yS List.length e;rw[yM,S14.outs_length,List.length_nil]at h1;omega);rw[zG (by omega),zG (by omega),zG (by omega),zG (by omega),zG (by omega),zO h,zG (by omega),zG (by omega),zG (by omega),zO h]
  exact ztL c N L k g o p y c.bits.toNat c.first.toNat c.second.toNat (S14.outs (S14.outA N) k) bit W hNW hc hp hy hk2 N.part.toNat hpt (by omega) (zaY hi.bits.1) (by have:=hi.bits;omega) (zaY hm.1) (zaY (by omega)) (by omega) (by omega) (by omega) (S14.outs_length _ _) hrd
   (hG.mix h hi.bits hm hO) (by omega) (rate14 (.inl h) hok) ((zhP h).1 hr).1.1.1
 ·have hf:=zpA h hok;obtain⟨g,o,rfl,_⟩:=hrd (fun e=>by have h1:=yS List.length e;rw[yM,S14.outs_length,List.length_nil]at h1;omega);rw[zG (by omega),zG (by omega),zG (by omega),zG (by omega),zG (by omega),zG (by omega),zG (by omega),zG (by omega),zG (by omega),zG (by omega),zO h];obtain⟨⟨h1,h2⟩,h3⟩:=(zfC h).1 hr
  exact zoY c N L k g o p y c.bits.toNat c.first.toNat (S14.outs (S14.outA N) k) bit W hNW hc hp hy hk2 N.part.toNat hpt (by omega) (zaY hi.bits.1) (by have:=hi.bits;omega) (zaY hf.1) (by omega) (S14.outs_length _ _) hrd
   (hG.refine h hi.bits _) (by have:=(zqO h3).1;omega) hb (rate14 (.inr h) hok) h1
def NetE(E:Nat→Prop)(N:S14.N)(VS:List Value)(w:World):Prop:=∃L,VS=zdN N L∧∀W,KepX E w W→NIs N L W
theorem NetE.kep{E:Nat→Prop}{N:S14.N}{VS:List Value}{w w':World}(h:NetE E N VS w)(hk:KepX E w w'):NetE E N VS w':=h.imp fun _ e=>⟨e.1,fun W hW=>e.2 W (hk.trans hW)⟩
theorem NetE.mono{E E':Nat→Prop}{N:S14.N}{VS:List Value}{w:World}(h:NetE E N VS w)(he:∀k,k<w.heap.size→E' k→E k):NetE E' N VS w:=h.imp fun _ e=>⟨e.1,fun W hW=>e.2 W (hW.mono he)⟩
theorem NetE.step{E:Nat→Prop}{N:S14.N}{VS:List Value}{w w':World}(h:NetE E N VS w)(hb:Below w.heap.size w w'):NetE E N VS w':=h.kep (KepX.below hb)
theorem NetE.len{E:Nat→Prop}{N:S14.N}{VS:List Value}{w:World}(h:NetE E N VS w):VS.length=4:=by obtain⟨L,rfl,_⟩:=h;rfl
theorem NetE.one{E:Nat→Prop}{N:S14.N}{VS:List Value}{w:World}(h:NetE E N VS w):∀v∈VS,v.oneCell'=true:=by
 obtain⟨L,rfl,_⟩:=h;intro v hv;simp only[zdN,List.mem_cons,zdJ,or_false]at hv;rcases hv with rfl|rfl|rfl|rfl<;>rfl
theorem NetE.is{E:Nat→Prop}{N:S14.N}{VS:List Value}{w:World}(h:NetE E N VS w):∃L,VS=zdN N L∧NIs N L w:=by
 obtain⟨L,e,h⟩:=h;exact⟨L,e,h w (KepX.refl _ _)⟩
theorem GoodN.opens{N:S14.N}{t:Nat}(h:GoodN N t)(w:World):ziH w N (S14.opened N):=
 have hz:=S14.check_zero h.check
 ztG w N hz.1 hz.2.1 (S14.kinds_of h.check) h.len h.xl h.pt.1 h.pt.2
theorem new_all{l:List S14.C}(h:S14.check l=0)(a:Option Addr)(cap:Nat)(w:World)(hrd:Rd w a (zhK l)) :
 Calls Tryz.prog 13 #[.slice a l.length cap] w fun e w'=>∃VS,e = .returned (.tuple #[.agg VS.toArray,.int .i64 0])∧NetE (fun k=>k<w.heap.size) (S14.opened (S14.newN l)) VS w'∧Below w.heap.size w w':=
 (new14_good l S14.freshA (S14.opened (S14.newN l)) a cap w hrd h (fresh_all l (S14.check_zero h).2.1) ((GoodN.new h).opens w)).mono fun e w' ⟨L,h1,h2,h3⟩=>⟨_,h1,⟨L,rfl,h2⟩,h3⟩
def S14.learnN(N:S14.N)(bit:Int):S14.N:=if S14.next N.part bit=1∨16≤S14.next N.part bit∧S14.next N.part bit≤31 then S14.opened (S14.learned N bit)else S14.learned N bit
theorem GoodN.learnN{N:S14.N}{t:Nat}(h:GoodN N t)(ht:t<65536){bit:Int}(hb:bit=0∨bit=1):GoodN (S14.learnN N bit) (t+1):=by
 unfold S14.learnN;split
 ·exact(h.learn ht hb).open_
 ·exact h.learn ht hb
theorem learn_all{N:S14.N}{t:Nat}(hg:GoodN N t)(ht:t<65536){bit:Int}(hb:bit=0∨bit=1){E:Nat→Prop}(VS:List Value)(w:World)(hV:NetE E N VS w) :
 Calls Tryz.prog 19 #[.agg VS.toArray,.int .i64 bit] w fun e w'=>∃VS',e = .returned (.tuple #[.agg VS'.toArray,.int .i64 0])∧NetE (fun k=>k<w.heap.size) (S14.learnN N bit) VS' w'∧Below w.heap.size w w':=by
 obtain⟨L,rfl,hN⟩:=hV.is;refine(ztR N (S14.learnN N bit) L (S14.outA N) (S14.learnA N bit) bit w hN (zoW N L w hN) hg.net (out_all N L w hN hg.net) hb (learnF_all hg ht hb L w hN) (fun h=> ?_) (fun h=> ?_)).mono fun e w' ⟨L',h1,h2,h3⟩=>⟨_,h1,⟨L',rfl,h2⟩,h3⟩
 ·have e:S14.learnN N bit=S14.opened (S14.learned N bit):=zO h;rw[e];exact(hg.learn ht hb).opens w
 ·exact zG h
theorem ctx_all{w:World}{N:S14.N}{t:Nat}(hg:GoodN N t)(h1:N.part=1){l:List Nat}(hl:l.length=16)(hlx:∀x∈l,x<4294967296){E:Nat→Prop}(hE:∀k,E k→k<w.heap.size)(VS:List Value)(a:Option Addr)(cap:Nat)(hV:NetE E N VS w)(hrd:Rd w a (zhJ l)) :
 Calls Tryz.prog 28 #[.agg VS.toArray,.slice a 16 cap] w fun e w'=>∃VS',e = .returned (.tuple #[.agg VS'.toArray,.int .i64 0])∧NetE E (S14.opened (S14.withCtxs N l)) VS' w'∧Below w.heap.size w w':=by
 obtain⟨L,rfl,hN⟩:=hV;have hN0:=hN w (KepX.refl _ _);have e:S14.withCtxs N l=⟨N.comps,N.parts,l,1⟩:=by unfold S14.withCtxs;rw[h1]
 have hO:=(hg.ctxs hl).opens w;rw[e]at hO⊢;exact(zqJ N _ L l a cap w E hE hN (zoW N L w hN0) hg.net h1 hl hlx hrd hO).mono fun e w' ⟨L',h1,h2,h3⟩=>⟨_,h1,⟨L',rfl,h2⟩,h3⟩
theorem pred_all{N:S14.N}{t:Nat}(hg:GoodN N t){E:Nat→Prop}(VS:List Value)(w:World)(hV:NetE E N VS w):Calls Tryz.prog 16 #[.agg VS.toArray] w fun e w'=>
 e = .returned (.tuple #[.int .i64 (S06.squash ((S14.outs (S14.outA N) N.comps.length).getD (N.comps.length-1) 0)),.int .i64 0])∧Below w.heap.size w w':=by
 obtain⟨L,rfl,hN⟩:=hV.is;exact zrE N L (S14.outA N) w hN (zoW N L w hN) hg.net (out_all N L w hN hg.net)
end Go.Proofs.YtahaacfikalheaaGreat
namespace Go.Proofs.YtahaacfikalheaaGreat
def padN(l:List Nat):List Nat:=l++List.replicate (16-l.length) 0
def S15.ctxN(cs:List (List Nat))(N:S14.N)(i:Nat):S14.N:=if i<cs.length then S14.opened (S14.withCtxs N (padN (cs.getD i [])))else N
def S15.atN(cs:List (List Nat))(N:S14.N)(n:Nat):S14.N:=if n%8=0 then S15.ctxN cs N (n/8)else N
def S15.stp(cs:List (List Nat))(s:S14.N×Nat)(b:Nat):S14.N×Nat:=(S14.learnN (S15.atN cs s.1 s.2) (b:Int),s.2+1)
def S15.pre(cs:List (List Nat))(N:S14.N)(h:List Nat):S14.N:=(h.foldl (S15.stp cs) (N,0)).1
def S15.pN(N:S14.N):Nat:=(S06.squash ((S14.outs (S14.outA N) N.comps.length).getD (N.comps.length-1) 0)).toNat
def S15.P(cs:List (List Nat))(N:S14.N)(h:List Nat):Nat:=S15.pN (S15.atN cs (S15.pre cs N h) h.length)
theorem pN_in(N:S14.N):1≤S15.pN N∧S15.pN N≤4095∧(S15.pN N:Int)=S06.squash ((S14.outs (S14.outA N) N.comps.length).getD (N.comps.length-1) 0):=by
 unfold S15.pN;have:=S06.squash_bounds ((S14.outs (S14.outA N) N.comps.length).getD (N.comps.length-1) 0);omega
theorem P_pr(cs:List (List Nat))(N:S14.N):S15.Pr (S15.P cs N):=fun _=>⟨(pN_in _).1,(pN_in _).2.1⟩
theorem stp_snd(cs:List (List Nat)):∀(h:List Nat) (s:S14.N×Nat),(h.foldl (S15.stp cs) s).2=s.2+h.length
 | [],s=>rfl
 | b::h,s=>by rw[List.foldl_cons,stp_snd cs h];show s.2+1+h.length=_;rw[yO];omega
theorem pre_snoc(cs:List (List Nat))(N:S14.N)(h:List Nat)(b:Nat):S15.pre cs N (h ++ [b])=S14.learnN (S15.atN cs (S15.pre cs N h) h.length) (b:Int):=by
 unfold S15.pre;rw[List.foldl_append];show S14.learnN (S15.atN cs (h.foldl (S15.stp cs) (N,0)).1 (h.foldl (S15.stp cs) (N,0)).2) (b:Int)=_;rw[stp_snd,yK]
def S15.Inv(N:S14.N)(n:Nat):Prop:=GoodN N n∧(2:Int)^(n%8)≤N.part∧N.part<2^(n%8+1)
theorem learnN_part(N:S14.N)(b:Int):(S14.learnN N b).part=S14.next N.part b:=by
 unfold S14.learnN;split<;>rfl
theorem next_pow{p:Int}{n b:Nat}(h:(2:Int)^(n%8)≤p∧p<2^(n%8+1))(hb:b=0∨b=1):(2:Int)^((n+1)%8)≤S14.next p (b:Int)∧S14.next p (b:Int)<2^((n+1)%8+1):=by
 have h8:n%8=0∨n%8=1∨n%8=2∨n%8=3∨n%8=4∨n%8=5∨n%8=6∨n%8=7:=by omega
 unfold S14.next;rcases h8 with e|e|e|e|e|e|e|e
 all_goals
  rw[e]at h;obtain⟨r,hr⟩:∃r,(n+1)%8=r:=⟨_,rfl⟩;have hr2:=hr;rw[Nat.add_mod,e]at hr2;rw[hr,←hr2];simp only[Nat.reduceMod,Nat.reduceAdd,Int.reducePow]at h⊢;split<;>omega
theorem S15.Inv.learn{N:S14.N}{n:Nat}(h:S15.Inv N n)(hn:n<65536){b:Nat}(hb:b=0∨b=1):S15.Inv (S14.learnN N (b:Int)) (n+1):=by
 refine⟨h.1.learnN hn (by omega),?_⟩;rw[learnN_part];exact next_pow h.2 hb
theorem padN_len{l:List Nat}(h:l.length≤16):(padN l).length=16:=by unfold padN;rw[yN,zaW];omega
theorem S15.Inv.ctx{N:S14.N}{n:Nat}(h:S15.Inv N n){cs:List (List Nat)}(hc:∀l∈cs,l.length≤16)(i:Nat):S15.Inv (S15.ctxN cs N i) n:=by
 unfold S15.ctxN;split
 ·rename_i hi
  have hl:(padN (cs.getD i [])).length=16:=padN_len (by
   rw[zI,zE hi];exact hc _ (zbC hi))
  exact⟨(h.1.ctxs hl).open_,h.2⟩
 ·exact h
theorem S15.Inv.at_{N:S14.N}{n:Nat}(h:S15.Inv N n){cs:List (List Nat)}(hc:∀l∈cs,l.length≤16):S15.Inv (S15.atN cs N n) n:=by
 unfold S15.atN;split
 ·exact h.ctx hc _
 ·exact h
theorem S15.Inv.part1{N:S14.N}{n:Nat}(h:S15.Inv N n)(hn:n%8=0):N.part=1:=by
 have:=h.2;rw[hn]at this;simp only[Int.reducePow,Nat.reduceAdd]at this;omega
theorem pre_inv{cs:List (List Nat)}(hc:∀l∈cs,l.length≤16):∀(h:List Nat) (s:S14.N×Nat),S15.Inv s.1 s.2→(∀b∈h,b=0∨b=1)→s.2+h.length<65536→S15.Inv (h.foldl (S15.stp cs) s).1 (s.2+h.length)
 | [],s,hi,_,_=>hi
 | b::h,s,hi,hb,hl=>by
   rw[yO]at hl;rw[List.foldl_cons,yO,show s.2+(h.length+1)=(S15.stp cs s b).2+h.length by show _=s.2+1+h.length;omega];exact pre_inv hc h _ ((hi.at_ hc).learn (by omega) (hb b (by simp))) (fun x hx=>hb x (by simp[hx])) (by show s.2+1+h.length<_;omega)
theorem pre_good{l:List S14.C}(h0:S14.check l=0){cs:List (List Nat)}(hc:∀l∈cs,l.length≤16){h:List Nat}(hb:∀b∈h,b=0∨b=1)(hl:h.length<65536):S15.Inv (S15.pre cs (S14.opened (S14.newN l)) h) h.length:=by
 have:=pre_inv hc h (S14.opened (S14.newN l),0) ⟨(GoodN.new h0).open_,(by show(2:Int)^0≤1∧(1:Int)<2^1;decide)⟩ hb (by show 0+h.length<_;omega);rw[show((S14.opened (S14.newN l),0):S14.N×Nat).2+h.length=h.length from yK _]at this;exact this
end Go.Proofs.YtahaacfikalheaaGreat
namespace Go.Proofs.YtahaacfikalheaaGreat
theorem ztV(P:List Nat→Nat):∀bs h,S15.costR P h bs≤3072*bs.length
 | [],_=>zcA _
 | b::bs,h=>by
   have h1:=ztV P bs (h ++ [b]);have h2:S15.cost (P h) b≤3072:=Nat.sub_le _ _;rw[S15.costR,yO];omega
structure S15.Run(cs:List (List Nat))(N0:S14.N)(P:List Nat→Nat):Prop where
 eq:S15.P cs N0=P
 c:∀l∈cs,l.length≤16
 x:∀l∈cs,∀y∈l,y<4294967296
 good:∀h,(∀b∈h,b=0∨b=1)→h.length<65536→S15.Inv (S15.pre cs N0 h) h.length
theorem S15.Run.of{l:List S14.C}(h0:S14.check l=0){cs:List (List Nat)}(hc:∀l∈cs,l.length≤16)(hx:∀l∈cs,∀y∈l,y<4294967296):S15.Run cs (S14.opened (S14.newN l)) (S15.P cs (S14.opened (S14.newN l))):=
 ⟨rfl,hc,hx,fun _ hb hl=>pre_good h0 hc hb hl⟩
theorem S15.Run.pr{cs:List (List Nat)}{N0:S14.N}{P:List Nat→Nat}(R:S15.Run cs N0 P):S15.Pr P:=by rw[←R.eq];exact P_pr _ _
def S15.inR(cs:List (List Nat))(N0:S14.N)(h r:List Nat):S14.N:=if r.length=0 then S15.atN cs (S15.pre cs N0 h) h.length else S15.pre cs N0 (h++r)
theorem inR_at{cs:List (List Nat)}{N0:S14.N}{h r:List Nat}(h8:h.length%8=0)(hr:r.length<8):S15.inR cs N0 h r=S15.atN cs (S15.pre cs N0 (h++r)) (h++r).length:=by
 unfold S15.inR;split
 ·rename_i e
  rw[List.eq_nil_of_length_eq_zero e,List.append_nil]
 ·unfold S15.atN;rw[zG (by rw[yN];omega)]
theorem inR_nil{cs:List (List Nat)}{N0:S14.N}{h:List Nat}{k:Nat}(hl:h.length=8*k):S15.inR cs N0 h []=S15.ctxN cs (S15.pre cs N0 h) k:=by
 unfold S15.inR S15.atN;rw[zO List.length_nil,zO (by omega),hl,Nat.mul_div_cancel_left _ (by decide)]
theorem inR_end{cs:List (List Nat)}{N0:S14.N}{h r:List Nat}(hr:r.length=8):S15.inR cs N0 h r=S15.pre cs N0 (h++r):=zG (by omega)
theorem S15.Run.bit{cs:List (List Nat)}{N0:S14.N}{P:List Nat→Nat}(R:S15.Run cs N0 P){h r:List Nat}(hb:∀b∈h++r,b=0∨b=1)(h8:h.length%8=0)(hr:r.length<8)(hl:(h++r).length<65536) :
 ∃(N:S14.N) (p:Nat),S15.inR cs N0 h r=N∧P (h++r)=p∧1≤p∧p≤4095∧S06.squash ((S14.outs (S14.outA N) N.comps.length).getD (N.comps.length-1) 0)=(p:Int)∧GoodN N (h++r).length∧∀b:Nat,S14.learnN N (b:Int)=S15.inR cs N0 h (r ++ [b]):=by
 have e:=inR_at (cs:=cs) (N0:=N0) h8 hr;have hp:=pN_in (S15.inR cs N0 h r);have hP:P (h++r)=S15.pN (S15.inR cs N0 h r):=by rw[←R.eq,e];rfl
 refine⟨_,_,rfl,hP,hp.1,hp.2.1,hp.2.2.symm,?_,fun b=> ?_⟩
 ·rw[e];exact((R.good _ hb hl).at_ R.c).1
 ·rw[e,←pre_snoc,zcU];unfold S15.inR;rw[zG (by rw[yN,zcF];omega)]
theorem S15.Run.enc{cs:List (List Nat)}{N0:S14.N}{P:List Nat→Nat}(R:S15.Run cs N0 P){g:List Nat}{p:Nat}(hp:P g=p) :
 ∃(E:S15.E) (c:Nat),S15.encR P [] S15.E0 g=E∧S15.costR P [] g=c∧S15.Ok E∧16777216≤E.width∧E.out.length≤4*g.length∧c≤3072*g.length∧∀b,S15.encR P [] S15.E0 (g ++ [b])=S15.enc1 E b p∧S15.costR P [] (g ++ [b])=c+S15.cost p b∧(S15.enc1 E b p).out.length≤4*(g.length+1):=by
 obtain⟨h1,h2⟩:=zjJ R.pr g [] S15.E0 zmP (by decide);have hl0:S15.E0.out.length=0:=rfl;have hl:=zkN R.pr g [] S15.E0 zmP (by decide);refine⟨_,_,rfl,rfl,h1,h2,by omega,ztV P g [],fun b=> ?_⟩;have e:S15.encR P [] S15.E0 (g ++ [b])=S15.enc1 (S15.encR P [] S15.E0 g) b p:=by rw[encR_snoc,List.nil_append,hp]
 have hl2:=zkN R.pr (g ++ [b]) [] S15.E0 zmP (by decide);rw[yN,zcF]at hl2;refine⟨e,by rw[zsO,List.nil_append,hp],?_⟩;rw[←e];omega
theorem S15.Run.dec{cs:List (List Nat)}{N0:S14.N}{P:List Nat→Nat}(R:S15.Run cs N0 P){D:S15.D}(hD:S15.Dk D){n p:Nat}{g:List Nat}(hg:S15.decR P [] D n=g)(hp:P g=p)(hp1:1≤p)(hp2:p≤4095) :
 ∃d,S15.decS P [] D n=d∧S15.Dk d∧d.inp.length≤D.inp.length∧S15.decS P [] D (n+1)=S15.dec1 d p∧S15.decR P [] D (n+1)=g ++ [S15.bitD d p]∧(S15.dec1 d p).inp.length≤D.inp.length:=by
 obtain⟨k1,k2⟩:=decS_ok R.pr n [] D hD;obtain⟨e1,e2⟩:=zqI P n [] D;rw[List.nil_append,hg,hp]at e1 e2;exact⟨_,rfl,k1,k2,e1,e2,yC (dec1_ok k1 ⟨hp1,hp2⟩).2 k2⟩
def S15.bytes:Nat→List Nat→List Nat
 | 0,_=>[]
 | n+1,l=>S15.num 0 (l.take 8)::S15.bytes n (l.drop 8)
theorem bytes_len:∀n l,(S15.bytes n l).length=n
 | 0,_=>rfl
 | n+1,l=>by rw[S15.bytes,yO,bytes_len n]
theorem zsR:∀(n:Nat) (l r:List Nat),l.length=8*n→r.length=8→S15.bytes (n+1) (l++r)=S15.bytes n l ++ [S15.num 0 r]
 | 0,l,r,hl,hr=>by
   have e:l = []:=List.eq_nil_of_length_eq_zero (by omega);subst e;show [S15.num 0 (r.take 8)] = [S15.num 0 r];rw[zeM (by omega)]
 | n+1,l,r,hl,hr=>by
   rw[S15.bytes,List.take_append_of_le_length (by omega),List.drop_append_of_le_length (by omega),zsR n (l.drop 8) r (by rw[zgS];omega) hr];rfl
theorem zsS:∀l:List Nat,S15.By l→S15.bytes l.length (S15.bits l)=l
 | [],_=>rfl
 | x::l,h=>by
   have h8:=ziD x 8;rw[yO,S15.bytes,S15.bits,List.take_left' h8,List.drop_left' h8,num_bits8 x (h x (by simp)),zsS l (fun y hy=>h y (by simp[hy]))]
theorem zsT:∀(n:Nat) (l:List Nat),l.length=8*n→(∀b∈l,b=0∨b=1)→S15.bits (S15.bytes n l)=l∧S15.By (S15.bytes n l)
 | 0,l,hl,_=>by
   have e:l = []:=List.eq_nil_of_length_eq_zero (by omega);subst e;exact⟨rfl,fun x hx=>by cases hx⟩
 | n+1,l,hl,hb=>by
   obtain⟨h1,h2⟩:=zsT n (l.drop 8) (by rw[zgS];omega) (fun b hx=>hb b (List.mem_of_mem_drop hx));obtain⟨h3,h4⟩:=bitsK_num8 (l:=l.take 8) (by rw[yJ];omega) (fun b hx=>hb b (List.mem_of_mem_take hx));refine⟨by rw[S15.bytes,S15.bits,h1,h3,yB],fun x hx=> ?_⟩;rw[S15.bytes]at hx;rcases List.mem_cons.1 hx with e|e
   ·rw[e];exact h4
   ·exact h2 x e
theorem num_snoc(r:List Nat)(b:Nat):S15.num 0 (r ++ [b])=2*S15.num 0 r+b:=by rw[zsB];rfl
theorem num_lt:∀(r:List Nat) (x:Nat),(∀b∈r,b=0∨b=1)→S15.num x r<(x+1)*2^r.length
 | [],x,_=>by show x<(x+1)*1;omega
 | b::r,x,h=>by
   have h1:=num_lt r (2*x+b) (fun y hy=>h y (by simp[hy]));have h2:=h b (by simp);rw[S15.num,yO,zcI,zdL (2^r.length) 2,←zaZ];refine zaF h1 (yW _ ?_);omega
