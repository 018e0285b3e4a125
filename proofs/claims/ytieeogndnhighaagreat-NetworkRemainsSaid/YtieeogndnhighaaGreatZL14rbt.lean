/- A part of the proof that ends in L14r (Hf14, Pl14, Hl14, Ag14, Fg14, Re14). No condition. -/
import Derived.Below
import Derived.BigQuiet
import Derived.Deep.Draws
import Derived.Deep.Light
import Derived.Deep.MidRow
import Derived.Deep.QuietTactic
import Derived.Deep.RegionHeld3
import Derived.Deep.Slices
import Derived.Great.BuildSlice
import Derived.Handy
import Derived.Laws.AppendOwn
import Derived.Laws.AppendOwnNone
import Derived.Laws.CopyOwn
import Derived.Laws.MakeOwn
import Derived.Laws.OwnMore
import Derived.Laws.Tables
import Derived.Lib.Hide
import Derived.Lib.MinMax
import Derived.Lib.SliceRun
import Derived.LoadGo2
import Derived.LoopIn
import Derived.LoopNIn
import Derived.Maps.AppendAt
import Derived.Orders
import Derived.OrdersHeld
import Derived.OwnWalkIn
import Derived.RangeFuncBound
import Derived.RangeFuncCalls
import Derived.RangeFuncLeaves
import Derived.RangeFuncNested
import Derived.RangeFuncWrites
import Derived.Shelf.Abstract
import Derived.Shelf.RegionOpen
import Derived.Sort.BigQuietIn
import Derived.Sort.QuietIn
import Derived.StillTail
import Derived.StillTailTactics
import Derived.Tactics
import Derived.TacticsInMore
import Derived.Test.YtieeogndnhighaaGreatRows
import Derived.Test.YtieeogndnhighaaGreatShelf
import Derived.WalkKit
import Derived.WalkLawsBesides
import Derived.WalkSpells
import Derived.Test.YtieeogndnhighaaGreatZL14rbp
import Derived.Test.YtieeogndnhighaaGreatZL14rbs
set_option linter.unusedSectionVars false
set_option linter.unusedSimpArgs false
set_option linter.unusedVariables false
set_option maxRecDepth 100000
set_option maxHeartbeats 20000000
namespace Go.Proofs.YtieeogndnhighaaGreat
open Go.RowKit
theorem PIs.ofH{l:List (Int×Int)}{a aT:Option Addr}{c cT:Nat}{B:Int}{XX:List Int}{w:World}(hr:Rd w a (Cts l))(ht:Tab XX aT cT w):PIs {S14.P0 with ctrs:=l,sb:=B,sd:=XX} {zcZ with a1:=a,c1:=c,a2:=aT,c2:=cT} w:=
 ⟨hr,ht,(PIs.zero w).mch,(PIs.zero w).mix,(PIs.zero w).apm⟩
def S14.freshH(bits:Int):S14.P:={S14.P0 with ctrs:=List.replicate 215 (32768,0),sb:=S10.newB bits,sd:=S10.newX bits}
theorem zoZ(c:S14.C)(w:World) :
 Calls Tryz.prog 213 #[CV c] w fun e w'=>∃y,e = .returned (PV (S14.freshH c.bits) y)∧PRob 0 w.heap.size (S14.freshH c.bits) y w'∧Below w.heap.size w w':=by
 unfold S14.freshH;have HN:=zD fun W=>new10_any c.bits W;have Hok:=zD (OK8.newX c.bits);have HC:=zD fun W=>zeV W;have HT:=zD fun W=>znS 215 (by omega) (by omega) W;obtain⟨XX,hXX⟩:∃x,S10.newX c.bits=x:=⟨_,rfl⟩;obtain⟨B,hB⟩:∃x,S10.newB c.bits=x:=⟨_,rfl⟩;obtain⟨E,hE⟩:∃x,S10.newE c.bits=x:=⟨_,rfl⟩;obtain⟨ws,hws⟩:∃l,List.replicate 215 ((32768:Int),(0:Int))=l:=⟨_,rfl⟩;have hwl:ws.length=215:=by rw[←hws,zaW]
 rw[hXX,hB,hE]at HN;rw[hXX]at Hok;rw[hws]at HT;rw[hXX,hB,hws];obtain⟨W1,hW1⟩:∃W1,(w.alloc (.cells (zY c).toArray 117)).alloc (.cells zP 83)=W1:=⟨_,rfl⟩;have k1:Blk W1 w.heap.size (zY c) 117:=by rw[←hW1];exact(Blk.new w _ _).alloc _
 have k2:Blk W1 (w.heap.size+1) (yL S14.P0 zcZ) 83:=by
  rw[←hW1];have h:=zdN (w.alloc (.cells (zY c).toArray 117));rwa[yA]at h
 have B1:Below w.heap.size w W1:=by rw[←hW1];exact((zF _ _).alloc (zE _) _).alloc (by simp) _
 have hW1s:W1.heap.size=w.heap.size+2:=by rw[←hW1];simp
 obtain⟨kind,bits,limit,rate,first,second⟩:=c;unfold CV;unfold zY at *;simp only at HN hW1 k1⊢;have x1:=k1.cell 1;simp only[zsO]at x1;have Hwl:=zD hwl;have HW1s:=zD hW1s;clear hXX hB hE hws hwl hW1s k1;go_enter Tryz.func213,Tryz.ntmps213;go_wp2_with (first
  | (refine yZ 83 zP zcG (by rfl) (by rfl) ?_;rw[hW1])
  | fail)
 refine(HN.out _).mono ?_;rintro e w3 ⟨V,rfl,TOv,hb3⟩;have B3:=zA B1 hb3;have k2:=k2.step hb3;obtain⟨aT,cT,rfl,hT,hF8⟩:=TOv.open Hok.out;unfold zgZ;obtain⟨W4,hW4⟩:∃W,w3.alloc (.cells #[.int .i64 0,.slice none 0 0] 75)=W:=⟨_,rfl⟩;obtain⟨b4,hb4⟩:∃b,w3.heap.size=b:=⟨_,rfl⟩;have kA:Blk W4 b4 [.int .i64 0,.slice none 0 0] 75:=by rw[←hW4,←hb4];exact Blk.new w3 _ _
 have ba4:Below w3.heap.size w3 W4:=by rw[←hW4];exact(zF _ _).alloc (zE _) _
 have hT4:=hT.step ba4
 have hTb:∀g o,XX≠ []→aT=some ⟨g,o,none⟩→g<b4:=fun g o hx e=>by
  obtain⟨g',o',e',hr⟩:=hT.rd (fun h=>hx (by cases XX with
   | nil=>rfl
   | cons _ _=>cases h))
  rw[e]at e';cases e';have hv:∃v,(Bts XX)[0]? = some v:=by cases XX with
   | nil=>exact absurd rfl hx
   | cons x r=>exact⟨_,rfl⟩
  obtain⟨v,hv⟩:=hv;rw[←hb4];exact zL (hr 0 v hv)
 have k2:=k2.step ba4;have B4:=zA B3 ba4;have zb:w.heap.size+1<b4:=by have:=hb3.size;have:=HW1s.out;omega
 have HT4:=zD hT4;have HF8:=zD (hF8.mono (by have:=HW1s.out;omega):Fr aT (w.heap.size+2));have HTb:=zD hTb;clear TOv hT hF8 hb3 B3 ba4 x1 hT4 hTb;go_wp2_with (first
  | (rw[hW4,hb4])
  | (rw[hW4])
  | (refine yD 75 (.tmp 3) (.tmp 10) (by rfl) (by rfl) b4 (by rfl) [.int .i64 B,.slice aT XX.length cT] (by rfl) _ 75 kA zoV rfl (by simp[Value.oneCell']) ?_;intro s5 E5 g5 z5;clear z5))
 have k25:=k2.keptRow g5 (by intro e;have:=zJ e;omega)
 have hT5:Tab XX aT cT s5:=⟨HT4.out.ok,HT4.out.cap,by
  by_cases hx:XX = []
  ·subst hx;exact fun h=>absurd rfl h
  ·exact HT4.out.rd.keptRow g5 (fun g o e=>by have:=HTb.out g o hx e;omega)⟩
 have B5:=B4.trans (yC g5 (by omega) B4.size);have HT5:=zD hT5;have hCS:Cells s5 [(⟨b4,0,none⟩,.int .i64 B),(⟨b4,1,none⟩,.slice aT XX.length cT)]:=⟨E5.cell 0,E5.cell 1,yJ⟩;clear hT5 HT4 B4 k2 g5 kA;refine zsP 4 1 [(U,[zsL,zsL,U]),(zsL,[U]),(zsL,[zsL,U]),(U,[zsL,zsL,zsL,U])] (fun K=>Below s5.heap.size s5 K∧Cells K [(⟨b4,0,none⟩,.int .i64 B),(⟨b4,1,none⟩,.slice aT XX.length cT)]) (by kernel_rfl) (⟨(zF _ _).drew,hCS⟩) (fun Y Q4 F4 hY hF=> ?_);simp only[zsN]
 repeat
  apply zK (by rw[hY];rfl)
  ·intro w2 hS2;(try simp only[Keeps,Cells]at hS2);go_simp;with_reducible rfl
  simp only[zsM]
 have hbv0:Below s5.heap.size s5 s5.drew:=(zF _ _).drew;apply zU (by rw[hY];rfl)
 ·go_simp;with_reducible exact⟨rfl,rfl⟩
 refine(HC.out _).mono ?_;rintro e v1 ⟨rfl,hbv10⟩;have hbv1:=zA hbv0 hbv10;refine⟨_,rfl,⟨hbv1,Cells.step hbv1 hCS⟩,?_⟩;simp only[zsM];apply zU (by rw[hY];rfl)
 ·go_simp;with_reducible exact⟨rfl,rfl⟩
 refine(HT.out _).mono ?_;rintro e v2 ⟨a,cap,rfl,hfar,hrd,hbv20⟩;have hbv2:=zA hbv1 hbv20;refine⟨_,rfl,⟨hbv2,Cells.step hbv2 hCS⟩,?_⟩;simp only[zsM]
 repeat
  apply zK (by rw[hY];rfl)
  ·intro w2 hS2;(try simp only[Keeps,Cells]at hS2);go_simp;with_reducible rfl
  simp only[zsM]
 refine yK (hF.out _ _ (fun K hK=> ?_));clear hF hY;have HK:=zD hK;clear hK;have k28:=k25.step hbv2;have BS:=zA B5 hbv2;have hfar2:∀g o,a=some ⟨g,o,none⟩→w.heap.size+2≤g:=fun g o e=>by have:=hfar g o e;have:=hbv1.size;have:=B5.size;have:=E5.lt;omega
 have Hrd:=zD hrd;have Hfar:=zD hfar2;have HT8:=zD (HT5.out.step hbv2);have hone:∀v∈yL {S14.P0 with ctrs:=ws,sb:=B,sd:=XX} {zcZ with a1:=a,c1:=cap,a2:=aT,c2:=cT},v.oneCell'=true:=zaG _ _;have hPV:yL {S14.P0 with ctrs:=ws,sb:=B,sd:=XX} {zcZ with a1:=a,c1:=cap,a2:=aT,c2:=cT} = [.slice a 215 cap,.int .i64 B,.slice aT XX.length cT,.int .i64 0,.int .i64 0,.int .i64 0,.slice none 0 0,.slice none 0 0,.int .i64 0,.int .i64 0,.int .i64 0,.int .i64 0,.slice none 0 0,.int .i64 0,.slice none 0 0,.slice none 0 0]:=by
  unfold yL;simp only[Hwl.out];rfl
 rw[hPV]at hone;clear hrd hfar hfar2 hbv1 hbv2 hbv10 hbv20 hbv0 hCS;simp only[ldc,ldz];refine(yD 83 (.tmp 2) (.tmp 15) (by rfl) (by rfl) (w.heap.size+1) (by rfl) [.slice a 215 cap,.int .i64 B,.slice aT XX.length cT,.int .i64 0,.int .i64 0,.int .i64 0,.slice none 0 0,.slice none 0 0,.int .i64 0,.int .i64 0,.int .i64 0,.int .i64 0,.slice none 0 0,.int .i64 0,.slice none 0 0,.slice none 0 0] (by rfl) _ 83 k28 (info_P.trans rfl) rfl hone ?_);intro wL EL gL sL;go_wp2_with fail;refine OnlyK.mk (HK.out _ _ ?_);go_wp2_with fail;have hL:=run_loadVar_mid wL _ 0 _ _ _ EL.cells Tryz.underlying83 rfl (info_P.trans rfl);refine bodyPost_ret (v:=.agg #[.slice a 215 cap,.int .i64 B,.slice aT XX.length cT,.int .i64 0,.int .i64 0,.int .i64 0,.slice none 0 0,.slice none 0 0,.int .i64 0,.int .i64 0,.int .i64 0,.int .i64 0,.slice none 0 0,.int .i64 0,.slice none 0 0,.slice none 0 0]) ?_ rfl ?_
 ·exact zbG (show Tryz.f213.results = #[.cell 2 83]from rfl) (p:=⟨w.heap.size+1,0,none⟩) rfl hL
 ·refine⟨{zcZ with a1:=a,c1:=cap,a2:=aT,c2:=cT},?_,fun w' hk=> ?_,BS.trans (yC gL (by omega) BS.size)⟩
  ·unfold PV;rw[hPV]
  ·have hX:KepX (fun k=>k<w.heap.size+2) _ w':=(KepX.row gL (fun b e=>.inl (by show b<_;have:=zJ e;omega))).trans (hk.toX14.mono0 (by omega));exact PIs.ofH (Hrd.out.kepX hX (fun g o e=>by have:=Hfar.out g o e;show¬g<_;omega)) (HT8.out.kepX hX (fun g o e=>by have:=HF8.out g o e;show¬g<_;omega))
def S14.seen(N:S14.N)(k:Nat)(c:S14.C):List Int:=((S14.outs (S14.outA N) k).drop c.first.toNat).take (c.second.toNat+1-c.first.toNat)
def S14.st(N:S14.N)(p:S14.P):Nat:=(S10.getN p.sb p.sd p.slot (S14.node N.part.toNat:Nat)).toNat
def S14.learnP(N:S14.N)(bit:Int)(k:Nat)(c:S14.C)(p:S14.P):S14.P:=
 if c.kind=1 then {p with ctrs:=S14.upd p.ctrs (S14.at_ N k c) bit c.limit}
 else if c.kind=2 then {p with ctrs:=S14.upd p.ctrs (S14.st N p) bit c.limit,sb:=S10.setB p.sb p.sd p.slot (S14.node N.part.toNat:Nat) (S09.nextS (S14.st N p) bit),sd:=S10.setX p.sb p.sd p.slot (S14.node N.part.toNat:Nat) (S09.nextS (S14.st N p) bit)}
 else if c.kind=3 then {p with m:=S12.bitR p.m bit}
 else if c.kind=5 then {p with mi:=p.mi,mw:=S13.learnL p.mw (S14.at_ N k c) (S14.seen N k c) bit c.rate}
 else if c.kind=6 then {p with ac:=S11.update p.ac (S14.at_ N k c) (S06.squash ((S14.outs (S14.outA N) k).getD c.first.toNat 0)) bit c.rate}
 else p
def S14.learnA(N:S14.N)(bit:Int)(k:Nat):S14.P:=S14.learnP N bit k (N.comps.getD k S14.zc) (N.parts.getD k S14.P0)
def S14.freshA(c:S14.C):S14.P:=
 if c.kind=1 then S14.fresh1 (2^c.bits.toNat)else if c.kind=2 then S14.freshH c.bits
 else if c.kind=3 then {S14.P0 with m:=S12.newM c.bits c.limit}
 else if c.kind=5 then {S14.P0 with mi:=c.second-c.first+1,mw:=List.replicate (2^c.bits.toNat) (List.replicate (c.second-c.first+1).toNat (65536/(c.second-c.first+1)))}
 else if c.kind=6 then {S14.P0 with ac:=zeI S11.first (2^c.bits.toNat)}else S14.P0
theorem zcN{c:S14.C}{p:S14.P}{pt:Int}(h:c.kind=0∨c.kind=4):S14.right c p pt=true↔S14.bare p=true:=by
 unfold S14.right;rcases h with h|h
 ·rw[zQ h]
 ·rw[zI (by omega),zI (by omega),zI (by omega),zI (by omega),zQ h]
theorem zeH{c:S14.C}{p:S14.P}{pt:Int}(h:c.kind=1):S14.right c p pt=true↔S14.bare {p with ctrs:=[]}=true∧S14.okCtrs p.ctrs (2^c.bits.toNat) c.limit=true:=by
 unfold S14.right;rw[zI (by omega),zQ h,zS]
theorem zdV{c:S14.C}{p:S14.P}{pt:Int}(h:c.kind=2):S14.right c p pt=true↔(((S14.okCtrs p.ctrs 215 c.limit=true∧p.sb=c.bits)∧S10.check p.sb p.sd=0)∧(0≤p.slot∧p.slot≤2^c.bits.toNat-1))∧S14.bare {p with ctrs:=[],sb:=0,sd:=[],slot:=0}=true:=by
 unfold S14.right;rw[zI (by omega),zI (by omega),zQ h];simp only[zS,yB,beq_iff_eq,S14.has_iff]
theorem zgE{c:S14.C}{p:S14.P}{pt:Int}(h:c.kind=3):S14.right c p pt=true↔(((S14.bare {p with m:=S14.zM}=true∧p.m.bits=c.bits)∧p.m.least=c.limit)∧p.m.part=pt)∧S12.check p.m=0:=by
 unfold S14.right;rw[zI (by omega),zI (by omega),zI (by omega),zQ h];simp only[zS,yB,beq_iff_eq]
theorem zhB{c:S14.C}{p:S14.P}{pt:Int}(h:c.kind=5):S14.right c p pt=true↔((S14.bare {p with mi:=0,mw:=[]}=true∧p.mi=c.second-c.first+1)∧(p.mw.length:Int)=2^c.bits.toNat)∧S13.check 16 p.mi p.mw=0:=by
 unfold S14.right;rw[zI (by omega),zI (by omega),zI (by omega),zI (by omega),zI (by omega),zQ h];simp only[zS,yB,beq_iff_eq]
theorem zeG{c:S14.C}{p:S14.P}{pt:Int}(h:c.kind=6):S14.right c p pt=true↔(S14.bare {p with ac:=[]}=true∧(p.ac.length:Int)=33*2^c.bits.toNat)∧S11.check p.ac=0:=by
 unfold S14.right;rw[zI (by omega),zI (by omega),zI (by omega),zI (by omega),zI (by omega),zI (by omega),zQ h];simp only[zS,yB]
theorem okCtrs_iff{l:List (Int×Int)}{n:Nat}{limit:Int}:S14.okCtrs l n limit=true↔l.length=n∧∀c∈l,S08.check c.1 c.2 limit=0:=by
 unfold S14.okCtrs;simp only[zS,yB,Bool.not_eq_true',List.any_eq_false,Decidable.not_not]
theorem step_check{p n bit limit:Int}(h:S08.check p n limit=0)(hb:bit=0∨bit=1):S08.check (S08.updateP p n bit limit) (S08.updateN p n bit limit) limit=0:=by
 obtain⟨h1,h2,h3,h4,h5,h6⟩:=S08.check_ok h;have hE:S08.updateE p n bit limit=0:=by unfold S08.updateE;rw[zI (by rw[h];simp),zI (by omega)]
 have hs:=S08.step_between h3 h4 h5 hb;unfold S08.updateP S08.updateN;rw[zI (by rw[hE];simp),zI (by rw[hE];simp)];have hr:0≤S08.step p n bit∧S08.step p n bit≤65535:=by
  rcases hb with hb|hb
  ·have:=hs.2 hb;omega
  ·have:=hs.1 hb;omega
 unfold S08.check;rw[zI (by omega),zI (by omega)]
theorem zqQ{l:List (Int×Int)}{n i:Nat}{bit limit:Int}(h:S14.okCtrs l n limit=true)(hi:i<n)(hb:bit=0∨bit=1):S14.okCtrs (S14.upd l i bit limit) n limit=true:=by
 rw[okCtrs_iff]at h⊢;unfold S14.upd;refine⟨by rw[zaE];exact h.1,fun c hc=> ?_⟩;rcases List.mem_or_eq_of_mem_set hc with hc|rfl
 ·exact h.2 c hc
 ·have hm:l.getD i (0,0)∈l:=by
   rw[zR,zG (by omega),zfB];exact zaS _
  exact step_check (h.2 _ hm) hb
theorem zrB{bits:Int}{xs:List Int}(h:S10.check bits xs=0)(hok:OK8 xs):∃n:Nat,bits=n∧Good n xs:=by
 obtain⟨n,rfl,hn,hl,hb⟩:=S10.correct h;refine⟨n,rfl,hn,hl,hok,fun j hj hz=> ?_⟩;rw[S10.bad_eq hl]at hb;unfold S10.badP at hb;rw[List.any_eq_false]at hb;have h2:=hb j (List.mem_range.2 (by omega));unfold S10.bad2 at h2;rw[zT hz,zcB,yB]at h2;omega
theorem zqR:∀p<256,1≤p→1≤S14.node p∧S14.node p≤15:=by decide +kernel
theorem bitM_facts(m:S12.M)(b:Int):(S12.bitM m b).bits=m.bits∧(S12.bitM m b).least=m.least∧(S12.bitM m b).part=(if 255<2*m.part+b then 1 else 2*m.part+b)∧((S12.bitM m b).bytes=m.bytes∨(255<2*m.part+b∧(S12.bitM m b).bytes=m.bytes ++ [2*m.part+b-256])):=by
 obtain⟨l1,l2,l3,l4,l5⟩:=S12.learn_bits m b;unfold S12.bitM S12.expect S12.take;rw[l4];by_cases h:255<2*m.part+b
 ·rw[zQ h,zQ h];simp only;unfold S12.search S12.extend;refine⟨?_,?_,?_,.inr ⟨h,?_⟩⟩<;>(repeat' split)<;>simp_all
 ·rw[zI h,zI h];exact⟨l1,l2,rfl,.inl l3⟩
structure GoodP(t:Nat)(c:S14.C)(p:S14.P)(pt:Int):Prop where
 right:S14.right c p pt=true
 tab:OK8 p.sd
 byt:S12.Byt p.m.bytes
 few:p.m.bytes.length≤t
structure GoodN(N:S14.N)(t:Nat):Prop where
 check:S14.check N.comps=0
 len:N.parts.length=N.comps.length
 xl:N.ctxs.length=16
 pt:1≤N.part∧N.part≤255
 ps:∀(k:Nat) (c:S14.C) (p:S14.P),N.comps[k]? = some c→N.parts[k]? = some p→GoodP t c p N.part
theorem GoodN.net{N:S14.N}{t:Nat}(h:GoodN N t):S14.checkNet N=0:=S14.checkNet_of h.check h.len h.xl h.pt (fun k c p h1 h2=>(h.ps k c p h1 h2).right)
theorem at_lt{N:S14.N}{k:Nat}{c:S14.C}(h:0≤c.bits∧c.bits≤16):S14.at_ N k c<2^c.bits.toNat:=S14.index_lt _ _ (by omega)
theorem S14.outs_in{N:S14.N}{L:NLay}{w:World}{O:Nat→List Int→Int}(HK:zfJ N L w O):∀k,k≤N.comps.length→∀x∈S14.outs O k,-3071≤x∧x≤3071
 | 0,_,x,hx=>by cases hx
 | k+1,hk,x,hx=>by
   have ih:=S14.outs_in HK k (by omega);rw[S14.outs,List.mem_append,zaK]at hx;rcases hx with h|rfl
   ·exact ih x h
   ·have hc:N.comps[k]? = some N.comps[k]:=zG (by omega);have hb:Below w.heap.size w (w.alloc (.cells (zaC (S14.outs O k)).toArray 3)):=(zF _ _).alloc (zE _) _;exact(HK k _ hc (S14.outs O k) (some ⟨w.heap.size,0,none⟩) _ hb (Rd.new w (zaC (S14.outs O k)) _) (S14.outs_length O k) ih).2
theorem GoodP.hist{t:Nat}{N:S14.N}{c:S14.C}{p:S14.P}{bit:Int}(h:GoodP t c p N.part)(hk:c.kind=2)(hpt:1≤N.part∧N.part≤255)(hb:bit=0∨bit=1) :
 S10.getN p.sb p.sd p.slot (S14.node N.part.toNat:Nat)=(S14.st N p:Int)∧S14.st N p<215∧p.ctrs.length=215∧S09.nextE (S14.st N p) bit=0∧(0≤S09.nextS (S14.st N p) bit∧S09.nextS (S14.st N p) bit<215)∧
  S10.setE p.sb p.sd p.slot (S14.node N.part.toNat:Nat) (S09.nextS (S14.st N p) bit)=0:=by
 obtain⟨⟨⟨⟨h1,h2⟩,h3⟩,h4⟩,h5⟩:=(zdV hk).1 h.right;have hg:=S10.getN_lt p.slot (S14.node N.part.toNat:Nat) h3 h.tab;have hs:S10.getN p.sb p.sd p.slot (S14.node N.part.toNat:Nat)=(S14.st N p:Int):=(Int.toNat_of_nonneg hg.1).symm;have hl:S14.st N p<215:=by unfold S14.st;omega
 obtain⟨B,hB,rfl⟩:∃B:Nat,B<2∧bit=(B:Int):=by rcases hb with rfl|rfl;exact⟨0,by decide,rfl⟩;exact⟨1,by decide,rfl⟩
 have hx:=S09.nextS_ok (s:=(S14.st N p:Int)) ⟨by omega,by omega⟩ hB;have hr:=S09.next_range (s:=(S14.st N p:Int)) ⟨by omega,by omega⟩ hB;rw[←hx.1]at hr;have hn:=zqR N.part.toNat (by omega) (by omega);refine⟨hs,hl,(okCtrs_iff.1 h1).1,hx.2,hr,?_⟩;unfold S10.setE;have hnd:S10.node p.sb p.sd p.slot (S14.node N.part.toNat:Nat)=0:=by
  unfold S10.node;rw[zQ h3];unfold S10.exists;rw[zT (by rw[h2];omega),zT (by omega)];rfl
 rw[zQ hnd,zQ (by omega)]
theorem GoodP.mix{t:Nat}{N:S14.N}{k:Nat}{c:S14.C}{p:S14.P}(h:GoodP t c p N.part)(hk:c.kind=5)(hbits:0≤c.bits∧c.bits≤16)(hfs:0≤c.first∧c.first≤c.second∧c.second≤(k:Int)-1)
 (hO:∀x∈S14.outs (S14.outA N) k,-3071≤x∧x≤3071):S13.usable 16 p.mi p.mw (S14.at_ N k c:Nat) (S14.seen N k c)=0:=by
 obtain⟨⟨⟨h1,h2⟩,h3⟩,h4⟩:=(zhB hk).1 h.right;have hat:=at_lt (N:=N) (k:=k) hbits;have hl:(S14.seen N k c).length=c.second.toNat+1-c.first.toNat:=by unfold S14.seen;rw[yS,List.length_drop,S14.outs_length];omega
 unfold S13.usable
 rw[zI (by rw[h4];simp),zI (by rw[h3];have:((2^c.bits.toNat:Nat):Int)=2^c.bits.toNat:=(by simp);omega),zI (by rw[hl,h2];omega),zI]
 rw[Bool.not_eq_true,List.any_eq_false];intro x hx;have hx2:=hO x (List.mem_of_mem_drop (List.mem_of_mem_take hx));unfold S13.strong;simp;omega
theorem GoodP.refine{t:Nat}{N:S14.N}{k:Nat}{c:S14.C}{p:S14.P}(h:GoodP t c p N.part)(hk:c.kind=6)(hbits:0≤c.bits∧c.bits≤16)(x:Int):S11.usable p.ac (S14.at_ N k c:Nat) (S06.squash x)=0:=by
 obtain⟨⟨h1,h3⟩,h4⟩:=(zeG hk).1 h.right;have hat:=at_lt (N:=N) (k:=k) hbits;have hq:=S06.squash_bounds x;have h3':p.ac.length=33*2^c.bits.toNat:=by
  have:((33*2^c.bits.toNat:Nat):Int)=33*2^c.bits.toNat:=by simp
  omega
 unfold S11.usable;rw[zI (by rw[h4];simp),zI (by rw[h3',Nat.mul_div_cancel_left _ (by decide)];omega),zI (by omega)]
theorem zrC{l:List Int}(h1:l.length%33=0)(h2:33≤l.length)(h3:l.length≤2162688)(h4:∀x∈l,0≤x∧x≤65535):S11.check l=0:=by
 unfold S11.check;rw[zI (by omega),zI];rw[Bool.not_eq_true,List.any_eq_false];intro x hx;have:=h4 x hx;unfold S11.bad;simp;omega
theorem zpM{l:List Int}(h:S11.check l=0):(l.length%33=0∧33≤l.length∧l.length≤2162688)∧∀x∈l,0≤x∧x≤65535:=by
 unfold S11.check at h;split at h
 ·cases h
 ·split at h
  ·cases h
  ·rename_i h1 h2
   refine⟨by omega,fun x hx=> ?_⟩;rw[Bool.not_eq_true,List.any_eq_false]at h2;have:=h2 x hx;unfold S11.bad at this;simp at this;omega
theorem check11_upd{l:List Int}{c:Nat}{p bit rate:Int}(h:S11.check l=0)(hb:bit=0∨bit=1)(hr:1≤rate∧rate≤255):S11.check (S11.update l c p bit rate)=0:=by
 obtain⟨⟨h1,h2,h3⟩,h4⟩:=zpM h;have hl:=S11.update_length l c p bit rate;have hf:=S11.from_bounds p
 have hg:∀i,0≤l.getD i 0∧l.getD i 0≤65535:=fun i=>by
  rw[zR];rcases zaB i l.length with hi|hi
  ·rw[zG hi,zfB];exact h4 _ (zaS hi)
  ·rw[yV hi];simp
 refine zrC (by omega) (by omega) (by omega) (fun y hy=> ?_);have k1:=fun i=>(S11.learn_facts (u:=l.getD i 0) (hg i).1 (hg i).2 hb (rate:=rate) (by omega) (by omega) (share:=192-S11.from p) (by omega) (by omega)).2.2.2.2;have k2:=fun i=>(S11.learn_facts (u:=l.getD i 0) (hg i).1 (hg i).2 hb (rate:=rate) (by omega) (by omega) (share:=S11.from p) (by omega) (by omega)).2.2.2.2;unfold S11.update at hy;rcases List.mem_or_eq_of_mem_set hy with hy|rfl
 ·rcases List.mem_or_eq_of_mem_set hy with hy|rfl
  ·exact h4 y hy
  ·exact k1 _
 ·exact k2 _
theorem znZ(d rate:Int):∀ws xs:List Int,ws.any S13.heavy=false→(S13.learnRow d rate ws xs).any S13.heavy=false
 | [],xs,h=>by cases xs<;>exact h
 | w::ws,[],h=>h
 | w::ws,x::xs,h=>by
   rw[List.any_cons,Bool.or_eq_false_iff]at h;show(S13.lw d rate w x::S13.learnRow d rate ws xs).any S13.heavy=false;rw[List.any_cons,znZ d rate ws xs h.2,Bool.or_false];unfold S13.lw S13.heavy;simp;omega
theorem zsD{n:Int}{L:List (List Int)}(h:S13.check 16 n L=0)(c:Nat)(xs:List Int)(bit rate:Int):S13.check 16 n (S13.learnL L c xs bit rate)=0:=by
 obtain⟨h1,h2,h3,h4,h5⟩:=S13.check_zero h;unfold S13.check;have hl:(S13.learnL L c xs bit rate).length=L.length:=by unfold S13.learnL;rw[zaE]
 rw[zI (by omega)];refine S13.rows_of (fun l hl2=> ?_);unfold S13.learnL at hl2;rcases List.mem_or_eq_of_mem_set hl2 with hl2|rfl
 ·exact h5 l hl2
 ·rw[S13.learnRow_length];by_cases hc:c<L.length
  ·have hm:L.getD c []∈L:=by
    rw[zR,zG hc,zfB];exact zaS _
   exact⟨(h5 _ hm).1,znZ _ _ _ _ (h5 _ hm).2⟩
  ·rw[List.set_eq_of_length_le (by omega)]at hl2;rw[←S13.learnRow_length];exact h5 _ hl2
theorem GoodP.learn{t:Nat}{N:S14.N}{k:Nat}{c:S14.C}{p:S14.P}{bit:Int}(h:GoodP t c p N.part)(hok:S14.ok c (k:Int)=true)(hpt:1≤N.part∧N.part≤255)(ht:t<65536)(hb:bit=0∨bit=1):GoodP (t+1) c (S14.learnP N bit k c p) (S14.next N.part bit):=by
 have hi:=S14.ok_is hok;unfold S14.learnP;rcases hi.kind with hk|hk|hk|hk|hk|hk|hk
 ·rw[zI (by omega),zI (by omega),zI (by omega),zI (by omega),zI (by omega)];exact⟨(zcN (.inl hk)).2 ((zcN (.inl hk)).1 h.right),h.tab,h.byt,Nat.le_succ_of_le h.few⟩
 ·rw[zQ hk];have hr:=(zeH hk).1 h.right;exact⟨(zeH hk).2 ⟨hr.1,zqQ hr.2 (at_lt hi.bits) hb⟩,h.tab,h.byt,Nat.le_succ_of_le h.few⟩
 ·rw[zI (by omega),zQ hk];obtain⟨g1,g2,g3,g4,g5,g6⟩:=h.hist hk hpt hb;obtain⟨⟨⟨⟨h1,h2⟩,h3⟩,h4⟩,h5⟩:=(zdV hk).1 h.right;obtain⟨n,hn,hG⟩:=zrB h3 h.tab;have hnr:=zqR N.part.toNat (by omega) (by omega);have hcb:c.bits.toNat=n:=by omega
  rw[hcb]at h4;have h2n:((2^n:Nat):Int)=2^n:=by simp
  obtain⟨sl,hsl⟩:∃x:Nat,p.slot=(x:Int):=⟨p.slot.toNat,by omega⟩;have hsn:sl<2^n:=by omega
  have eB:=hG.setB (i:=sl) (k:=S14.node N.part.toNat) hsn hnr.1 hnr.2 g5;have eX:=hG.setX (i:=sl) (k:=S14.node N.part.toNat) hsn hnr.1 hnr.2 g5;rw[←hn,←hsl]at eB eX;have hG2:=hG.set (16*sl+S14.node N.part.toNat) (S09.nextS (S14.st N p) bit) ⟨g5.1,by omega⟩ (fun _=>g5.2);refine⟨(zdV hk).2 ⟨⟨⟨⟨zqQ h1 g2 hb,?_⟩,?_⟩,?_⟩,h5⟩,?_,h.byt,Nat.le_succ_of_le h.few⟩
  ·show S10.setB _ _ _ _ _=_;rw[eB];exact h2
  ·show S10.check (S10.setB _ _ _ _ _) (S10.setX _ _ _ _ _)=0;rw[eB,eX,hn];exact hG2.check
  ·show 0≤p.slot∧p.slot≤_;rw[hcb];exact h4
  ·show OK8 (S10.setX _ _ _ _ _);rw[eX];exact hG2.ok
 ·rw[zI (by omega),zI (by omega),zQ hk];obtain⟨⟨⟨⟨h1,h2⟩,h3⟩,h4⟩,h5⟩:=(zgE hk).1 h.right;have hw:=(S12.check_iff p.m).1 h5;have hE:=S12.bitE_ok hw hb (by have:=h.few;omega);have eR:S12.bitR p.m bit=S12.bitM p.m bit:=by unfold S12.bitR;rw[zQ hE]
  obtain⟨f1,f2,f3,f4⟩:=bitM_facts p.m bit;rw[eR];refine⟨(zgE hk).2 ⟨⟨⟨⟨h1,f1.trans h2⟩,f2.trans h3⟩,?_⟩,(S12.check_iff _).2 (hw.bitM h.byt hb hE)⟩,h.tab,?_,?_⟩
  ·show(S12.bitM p.m bit).part=_;rw[f3,h4];rfl
  ·show S12.Byt (S12.bitM p.m bit).bytes;rcases f4 with f4|⟨f5,f4⟩
   ·rw[f4];exact h.byt
   ·rw[f4];intro x hx;rw[List.mem_append,zaK]at hx;rcases hx with hx|rfl
    ·exact h.byt x hx
    ·omega
  ·show(S12.bitM p.m bit).bytes.length≤_;have:=h.few;rcases f4 with f4|⟨_,f4⟩
   ·rw[f4];omega
   ·rw[f4,zaX,List.length_singleton];omega
 ·rw[zI (by omega),zI (by omega),zI (by omega),zI (by omega),zI (by omega)];exact⟨(zcN (.inr hk)).2 ((zcN (.inr hk)).1 h.right),h.tab,h.byt,Nat.le_succ_of_le h.few⟩
 ·rw[zI (by omega),zI (by omega),zI (by omega),zQ hk];obtain⟨⟨⟨h1,h2⟩,h3⟩,h4⟩:=(zhB hk).1 h.right;refine⟨(zhB hk).2 ⟨⟨⟨h1,h2⟩,?_⟩,zsD h4 _ _ _ _⟩,h.tab,h.byt,Nat.le_succ_of_le h.few⟩;show((S13.learnL _ _ _ _ _).length:Int)=_;unfold S13.learnL;rw[zaE];exact h3
 ·rw[zI (by omega),zI (by omega),zI (by omega),zI (by omega),zQ hk];obtain⟨⟨h1,h2⟩,h3⟩:=(zeG hk).1 h.right;have hrt:1≤c.rate∧c.rate≤255:=by
   unfold S14.ok at hok;rw[zI (by omega),zI (by omega),zI (by omega),zI (by omega),zI (by omega),zI (by omega),zQ hk]at hok;unfold S14.okRefine at hok;simp only[zS,S14.has_iff]at hok;omega
  refine⟨(zeG hk).2 ⟨⟨h1,?_⟩,check11_upd h3 hb hrt⟩,h.tab,h.byt,Nat.le_succ_of_le h.few⟩;show((S11.update _ _ _ _ _).length:Int)=_;rw[S11.update_length];exact h2
theorem GoodP.open_{t:Nat}{N:S14.N}{k:Nat}{c:S14.C}{p:S14.P}(h:GoodP t c p N.part)(hc:N.comps[k]? = some c)(hbits:0≤c.bits∧c.bits≤16):GoodP t c (S14.openP N k p) N.part:=by
 unfold S14.openP;rw[hc];by_cases hk:c.kind=2
 ·rw[zQ (by rw[Option.map_some,hk])];obtain⟨⟨⟨⟨h1,h2⟩,h3⟩,h4⟩,h5⟩:=(zdV hk).1 h.right;obtain⟨n,hn,hG⟩:=zrB h3 h.tab;have hcb:c.bits.toNat=n:=by omega
  have hh:=S14.hash_lt (N.ctxs.getD k 0) N.part.toNat;have hX:=hG.openX _ hh;have hL:=hG.openN_lt (S14.hash (N.ctxs.getD k 0) N.part.toNat);have hB:=hG.openB;rw[←hn]at hX hL hB;have h2n:((2^n:Nat):Int)=2^n:=by simp
  unfold S14.open1;refine⟨(zdV hk).2 ⟨⟨⟨⟨h1,?_⟩,?_⟩,?_⟩,h5⟩,hX.ok,h.byt,h.few⟩
  ·show S10.openB _ _=_;rw[hB];exact h2
  ·show S10.check (S10.openB _ _) _=0;rw[hB,hn];rw[hn]at hX;exact hX.check
  ·show 0≤((S10.openN _ _ _:Nat):Int)∧((S10.openN _ _ _:Nat):Int)≤_;rw[hcb];omega
 ·rw[zI (by rw[Option.map_some];exact fun e=>hk (zJ e))];exact h
theorem openK_get{N:S14.N}:∀(n j:Nat),(S14.openK N n)[j]? = if j<n then(N.parts[j]?).map (S14.openP N j)else N.parts[j]?
 | 0,j=>by rw[zI (by omega)];rfl
 | n+1,j=>by
   have ih:=openK_get (N:=N) n;rw[S14.openK];have hn:=ih n;rw[zI (by omega)]at hn;split
   ·rename_i p hp
    rw[List.getElem?_set];have hl:=(List.getElem?_eq_some_iff.1 hp).1;by_cases hj:n=j
    ·subst hj;rw[zQ rfl,zQ hl,zQ (by omega),←hn,hp];rfl
    ·rw[zI hj,ih j];by_cases h2:j<n
     ·rw[zQ h2,zQ (by omega)]
     ·rw[zI h2,zI (by omega)]
   ·rename_i hp
    rw[ih j];by_cases h2:j<n
    ·rw[zQ h2,zQ (by omega)]
    ·by_cases hj:j=n
     ·subst hj;rw[zI h2,zQ (by omega),←hn,hp];rfl
     ·rw[zI h2,zI (by omega)]
theorem GoodN.open_{N:S14.N}{t:Nat}(h:GoodN N t):GoodN (S14.opened N) t where
 check:=h.check
 len:=(S14.openK_length N _).trans h.len
 xl:=h.xl
 pt:=h.pt
 ps:=fun k c p hc hp=>by
  have hp:(S14.openK N N.comps.length)[k]? = some p:=hp;have hc:N.comps[k]? = some c:=hc;have hk:=(List.getElem?_eq_some_iff.1 hc).1;rw[openK_get,zQ hk]at hp;obtain⟨q,hq,rfl⟩:=Option.map_eq_some_iff.1 hp;exact(h.ps k c q hc hq).open_ hc (S14.ok_is ((S14.check_zero h.check).2.2 k c hc)).bits
theorem zqP(G:Nat→S14.P)(ps:List S14.P):∀n j,(S14.parts1 G ps n)[j]? = if j<n∧j<ps.length then some (G j)else ps[j]?
 | 0,j=>by rw[zI (by omega)];rfl
 | n+1,j=>by
   rw[S14.parts1,List.getElem?_set,S14.parts1_length,zqP G ps n j];by_cases hj:n=j
   ·subst hj;rw[zQ rfl];by_cases hl:n<ps.length
    ·rw[zQ hl,zQ ⟨by omega,hl⟩]
    ·rw[zI hl,zI (by omega),yV (by omega)]
   ·rw[zI hj];by_cases hl:j<n∧j<ps.length
    ·rw[zQ hl,zQ ⟨by omega,hl.2⟩]
    ·rw[zI hl,zI (by omega)]
def S14.learned(N:S14.N)(bit:Int):S14.N:=⟨N.comps,S14.parts1 (S14.learnA N bit) N.parts N.comps.length,N.ctxs,S14.next N.part bit⟩
theorem next_range{p bit:Int}(h:1≤p∧p≤255)(hb:bit=0∨bit=1):1≤S14.next p bit∧S14.next p bit≤255:=by
 unfold S14.next;split<;>omega
theorem GoodN.learn{N:S14.N}{t:Nat}(h:GoodN N t)(ht:t<65536){bit:Int}(hb:bit=0∨bit=1):GoodN (S14.learned N bit) (t+1) where
 check:=h.check
 len:=(S14.parts1_length _ _ _).trans h.len
 xl:=h.xl
 pt:=next_range h.pt hb
 ps:=fun k c p hc hp=>by
  have hp:(S14.parts1 (S14.learnA N bit) N.parts N.comps.length)[k]? = some p:=hp;have hc:N.comps[k]? = some c:=hc;have hk:=(List.getElem?_eq_some_iff.1 hc).1;have hkp:k<N.parts.length:=by rw[h.len];exact hk
  rw[zqP,zQ ⟨hk,hkp⟩]at hp;cases hp;have hq:N.parts[k]? = some N.parts[k]:=zG hkp;unfold S14.learnA;rw[zbW hc,zbW hq];exact(h.ps k c _ hc hq).learn ((S14.check_zero h.check).2.2 k c hc) h.pt ht hb
def S14.withCtxs(N:S14.N)(l:List Nat):S14.N:=⟨N.comps,N.parts,l,N.part⟩
theorem GoodN.ctxs{N:S14.N}{t:Nat}(h:GoodN N t){l:List Nat}(hl:l.length=16):GoodN (S14.withCtxs N l) t:=⟨h.check,h.len,hl,h.pt,h.ps⟩
theorem mem_reps{xs:List Int}{n:Nat}{x:Int}(h:x∈zeI xs n):x∈xs:=by
 unfold zeI at h;simp only[List.mem_flatten,List.mem_replicate]at h;obtain⟨l,⟨_,rfl⟩,h⟩:=h;exact h
theorem newM_ok14{bits least:Int}(h1:1≤bits∧bits≤16)(h2:1≤least∧least≤32):S12.newM bits least=S12.start bits least:=by
 have h:S12.okN bits least=true:=by unfold S12.okN;rw[zT h1,zT h2];rfl
 unfold S12.newM;rw[h];rfl
theorem GoodP.fresh{c:S14.C}{k:Int}(hok:S14.ok c k=true)(hk16:k≤16):GoodP 0 c (S14.freshA c) 1:=by
 have hi:=S14.ok_is hok;have h0:OK8 S14.P0.sd:=fun x hx=>by cases hx
 have hm0:S12.Byt S14.P0.m.bytes:=fun x hx=>by cases hx
 unfold S14.freshA
 have hlim:∀l:Int,S14.has l 1 1023=true→S08.check 32768 0 l=0:=fun l hl=>by
  rw[S14.has_iff]at hl;unfold S08.check;rw[zI (by omega),zI (by omega)]
 rcases hi.kind with hk|hk|hk|hk|hk|hk|hk
 ·rw[zI (by omega),zI (by omega),zI (by omega),zI (by omega),zI (by omega)];exact⟨(zcN (.inl hk)).2 rfl,h0,hm0,zE _⟩
 ·rw[zQ hk];unfold S14.ok at hok;rw[zI (by omega),zQ hk]at hok;unfold S14.okDirect at hok;simp only[zS]at hok;refine⟨(zeH hk).2 ⟨rfl,okCtrs_iff.2 ⟨zaW,fun x hx=> ?_⟩⟩,h0,hm0,zE _⟩;have hx:=List.eq_of_mem_replicate hx;subst hx;exact hlim _ hok.2
 ·rw[zI (by omega),zQ hk];unfold S14.ok at hok;rw[zI (by omega),zI (by omega),zQ hk]at hok;unfold S14.okDirect at hok;simp only[zS]at hok;have hbn:=hi.bits;obtain⟨n,hn⟩:∃n:Nat,c.bits=n:=⟨c.bits.toNat,by omega⟩;have hG:=Good.new (n:=n) (by omega);have eB:S10.newB c.bits=c.bits:=zQ hbn;have eX:S10.newX c.bits=List.replicate (16*2^n) 0:=by
   unfold S10.newX;rw[zQ hbn,hn,Int.toNat_natCast]
  have h2n:(0:Int)<2^c.bits.toNat:=by
   have:((2^c.bits.toNat:Nat):Int)=2^c.bits.toNat:=by simp
   have:=zcE c.bits.toNat;omega
  unfold S14.freshH;rw[eB,eX];refine⟨(zdV hk).2 ⟨⟨⟨⟨okCtrs_iff.2 ⟨zaW,fun x hx=> ?_⟩,rfl⟩,?_⟩,?_⟩,rfl⟩,hG.ok,hm0,zE _⟩
  ·have hx:=List.eq_of_mem_replicate hx;subst hx;exact hlim _ hok.2
  ·show S10.check c.bits _=0;rw[hn];exact hG.check
  ·show(0:Int)≤0∧(0:Int)≤_;omega
 ·rw[zI (by omega),zI (by omega),zQ hk];unfold S14.ok at hok;rw[zI (by omega),zI (by omega),zI (by omega),zQ hk]at hok;unfold S14.okMatch at hok;simp only[zS,S14.has_iff]at hok;rw[newM_ok14 hok.1.2 hok.2];have hs:=S12.start_wf hok.1.2 hok.2;exact⟨(zgE hk).2 ⟨⟨⟨⟨rfl,rfl⟩,rfl⟩,rfl⟩,(S12.check_iff _).2 hs.wf⟩,h0,(fun x hx=>by cases hx),zE _⟩
 ·rw[zI (by omega),zI (by omega),zI (by omega),zI (by omega),zI (by omega)];exact⟨(zcN (.inr hk)).2 rfl,h0,hm0,zE _⟩
 ·rw[zI (by omega),zI (by omega),zI (by omega),zQ hk];have hm:=hi.mix hk;have hp:=zoG (n:=c.bits.toNat) (by have:=hi.bits;omega);obtain⟨q,hq⟩:∃q:Nat,c.second-c.first+1=(q:Int):=⟨(c.second-c.first+1).toNat,by omega⟩;refine⟨(zhB hk).2 ⟨⟨⟨rfl,rfl⟩,?_⟩,?_⟩,h0,hm0,zE _⟩
  ·show((List.replicate _ _).length:Int)=_;rw[zaW];simp
  ·show S13.check 16 (c.second-c.first+1) _=0;rw[hq,Int.toNat_natCast];unfold S13.check;rw[zaW,zI (by omega)];refine S13.rows_of (fun l hl=> ?_);have hl:=List.eq_of_mem_replicate hl;subst hl;refine⟨by rw[zaW],?_⟩;rw[List.any_eq_false];intro x hx;have hx:=List.eq_of_mem_replicate hx;subst hx;have hd1:0≤(65536:Int)/q:=Int.ediv_nonneg (by decide) (by omega);have hd2:(65536:Int)/q≤65536:=Int.ediv_le_self _ (by decide);unfold S13.heavy;simp;omega
 ·rw[zI (by omega),zI (by omega),zI (by omega),zI (by omega),zQ hk];have hp:=zoG (n:=c.bits.toNat) (by have:=hi.bits;omega);have hl:(zeI S11.first (2^c.bits.toNat)).length=2^c.bits.toNat*33:=by rw[zdX,S11.first_length]
  refine⟨(zeG hk).2 ⟨⟨rfl,?_⟩,zrC ?_ ?_ ?_ (fun x hx=> ?_)⟩,h0,hm0,zE _⟩
  ·show((zeI S11.first (2^c.bits.toNat)).length:Int)=_;rw[hl,Int.natCast_mul];simp;omega
  ·rw[hl];exact Nat.mul_mod_left _ _
  ·rw[hl];omega
  ·rw[hl];omega
  ·have hx:=mem_reps hx;unfold S11.first at hx;obtain⟨i,_,rfl⟩:=List.mem_map.1 hx;have:=S06.squash_bounds (192*(i:Int)-3072);omega
def S14.newN(l:List S14.C):S14.N:=⟨l,l.map S14.freshA,List.replicate 16 0,1⟩
theorem GoodN.new{l:List S14.C}(h:S14.check l=0):GoodN (S14.newN l) 0 where
 check:=h
 len:=yX _
 xl:=zaW
 pt:=⟨Int.le_refl 1,(by decide:(1:Int)≤255)⟩
 ps:=fun k c p hc hp=>by
  have hp:(l.map S14.freshA)[k]? = some p:=hp;have hc:l[k]? = some c:=hc;have hk:=(List.getElem?_eq_some_iff.1 hc).1;have hl:=(S14.check_zero h).2.1;rw[zaU,hc]at hp;cases hp;exact GoodP.fresh ((S14.check_zero h).2.2 k c hc) (by omega)
theorem zrG{P:Program}{Y:Array Value→Nat→Option Bool}{Q:Exit→Act→World→Prop}{S:World→Prop}{G:Act→World→Prop}{w:World}{rest:List (KU×Oper)}{o:Oper}{a:Act}(ty:TypeId)(x y:Operand)(ho:o.op = .store ty x y)(hw:Region.wanted o (Y a.tmps)=true)
 (b oo:Nat) (cells:Array Value) (hx:a.eval x = .pointer (some ⟨b,oo,none⟩)) (hy:a.eval y = .agg cells) (ht:w.there b oo cells.size) (hi:(P.info? ty).map (·.size)=some cells.size) (h1:cells.all (·.oneCell')=true)
 (h:zbI P Y Q S G rest (a.put o.dst undef) (w.setCells b oo cells.toList)):zbI P Y Q S G ((.l,o)::rest) a w:=by
 unfold zbI;rw[zQ hw];exact .inl (wp_store_mid ty x y ho b oo cells hx hy ht hi h1 h)
theorem PIs.bareH{p:S14.P}{y:Lay}{w w':World}{l:List (Int×Int)}{a aT:Option Addr}{cap cT:Nat}{B:Int}{XX:List Int}(h:PIs p y w)(hb:S14.bare {p with ctrs:=[],sb:=0,sd:=[],slot:=0}=true)(hr:Rd w' a (Cts l))(ht:Tab XX aT cT w'):PIs {p with ctrs:=l,sb:=B,sd:=XX} {y with a1:=a,c1:=cap,a2:=aT,c2:=cT} w':=by
 obtain⟨_,_,h3,h4,h5,h6,h7⟩:=zeQ hb;exact⟨hr,ht,h.mch.nil14 h5 h6 h7,h.mix.nil14 h3,h.apm.nil14 h4⟩
theorem zoY(c:S14.C)(N:S14.N)(L:NLay)(k:Nat)(b:Value)(hb1:b.oneCell'=true)(p:S14.P)(y:Lay)(s:Nat)(bit:Int)(w:World)(hN:NIs N L w)(hp:N.parts[k]? = some p)(hy:L.ys[k]? = some y)(pt:Nat)(hpt:N.part=(pt:Int))(h1:1≤pt)(h2:pt≤255)
 (hs:S10.getN p.sb p.sd p.slot (S14.node pt:Nat)=(s:Int)) (hsl:s<p.ctrs.length) (hcl:p.ctrs.length≤65536) (hne:S09.nextE s bit=0) (hse:S10.setE p.sb p.sd p.slot (S14.node pt:Nat) (S09.nextS s bit)=0) (hbare:S14.bare {p with ctrs:=[],sb:=0,sd:=[],slot:=0}=true) :
 Calls Tryz.prog 214 #[CV c,VV N L k b,.int .i64 bit] w fun e w'=>∃y',e = .returned (.tuple #[PV {p with ctrs:=S14.upd p.ctrs s bit c.limit,sb:=S10.setB p.sb p.sd p.slot (S14.node pt:Nat) (S09.nextS s bit),sd:=S10.setX p.sb p.sd p.slot (S14.node pt:Nat) (S09.nextS s bit)} y',.int .i64 0])∧
  PRob 0 w.heap.size {p with ctrs:=S14.upd p.ctrs s bit c.limit,sb:=S10.setB p.sb p.sd p.slot (S14.node pt:Nat) (S09.nextS s bit),sd:=S10.setX p.sb p.sd p.slot (S14.node pt:Nat) (S09.nextS s bit)} y' w'∧Below w.heap.size w w':=by
 have hk:k<N.parts.length:=(List.getElem?_eq_some_iff.1 hp).1;have hP:=hN.ps k p y hp hy;have HPt:=zD fun(W:World) (hW:Below w.heap.size w W)=>zbN N L k b hb1 W (hN.step hW) hk p y hp hy;have HSt:=zD fun(W:World) (hW:Below w.heap.size w W)=>znU c N L k b hb1 p y W (hN.step hW) hp hy pt hpt h1 h2;rw[hs]at HSt;have HNx:=zD fun(W:World)=>next09_any (s:Int) bit W;have HUp:=zD fun(W:World) (hW:Below w.heap.size w W)=>zjE p.ctrs s hsl hcl bit c.limit y.a1 y.c1 W (hP.rc.step hW);have HNd:=zD fun(W:World)=>znN N L k b W pt hpt h1 h2;have HSe:=zD fun(W:World) (hW:Below w.heap.size w W)=>set10_any p.sb p.sd p.slot (S14.node pt:Nat) (S09.nextS s bit) y.a2 y.c2 W (hP.tab.step hW);have Hok:=zD (OK8.setX hP.tab.ok p.sb p.slot (S14.node pt:Nat) (S09.nextS s bit));obtain⟨ul,hul⟩:∃l,S14.upd p.ctrs s bit c.limit=l:=⟨_,rfl⟩;have hull:ul.length=p.ctrs.length:=by rw[←hul];unfold S14.upd;rw[zaE]
 obtain⟨B,hB⟩:∃x,S10.setB p.sb p.sd p.slot (S14.node pt:Nat) (S09.nextS s bit)=x:=⟨_,rfl⟩;obtain⟨XX,hXX⟩:∃x,S10.setX p.sb p.sd p.slot (S14.node pt:Nat) (S09.nextS s bit)=x:=⟨_,rfl⟩;rw[hB,hXX,hse]at HSe;rw[hne]at HNx;rw[hXX]at Hok;rw[hul]at HUp;rw[hul,hB,hXX];obtain⟨nd,hnd⟩:∃x,((S14.node pt:Nat):Int)=x:=⟨_,rfl⟩;obtain⟨nx',hnx'⟩:∃x,S09.nextS s bit=x:=⟨_,rfl⟩;rw[hnd]at HNd HSe;rw[hnx']at HNx HSe;have HPI:=zD fun(a aT:Option Addr) (cap cT:Nat) (w':World) (hr:Rd w' a (Cts ul)) (ht:Tab XX aT cT w')=>hP.bareH (cap:=cap) (B:=B) hbare hr ht;have HPV1:=zD fun(a:Option Addr) (cap:Nat)=>(show yL {p with ctrs:=ul} {y with a1:=a,c1:=cap}=(yL p y).set 0 (.slice a p.ctrs.length cap) by unfold yL;simp only[hull];rfl);have HPV2:=zD fun(a aT:Option Addr) (cap cT:Nat)=>(show yL {p with ctrs:=ul,sb:=B,sd:=XX} {y with a1:=a,c1:=cap,a2:=aT,c2:=cT}=splice ((yL p y).set 0 (.slice a p.ctrs.length cap)) 1 [.int .i64 B,.slice aT XX.length cT] by unfold yL;simp only[hull];rfl);obtain⟨m,hm⟩:∃m,p.ctrs.length=m:=⟨_,rfl⟩;obtain⟨sb,hsb⟩:∃m,p.sb=m:=⟨_,rfl⟩;obtain⟨sl,hsl2⟩:∃m,p.sd.length=m:=⟨_,rfl⟩;obtain⟨so,hso⟩:∃m,p.slot=m:=⟨_,rfl⟩;unfold zgZ at HSe;rw[hsb,hsl2,hso]at HSe;rw[hm]at HUp HPV2;have v0:(yL p y)[0]? = some (.slice y.a1 p.ctrs.length y.c1):=rfl;have v1:(yL p y)[1]? = some (.int .i64 p.sb):=rfl;have v2:(yL p y)[2]? = some (.slice y.a2 p.sd.length y.c2):=rfl;have v3:(yL p y)[3]? = some (.int .i64 p.slot):=rfl;rw[hm]at v0;rw[hsb]at v1;rw[hsl2]at v2;rw[hso]at v3;have hVPl:(yL p y).length=16:=rfl;have hVPo:=zaG p y;unfold PV at HPt;unfold VV at HPt HSt HNd⊢;unfold PV;obtain⟨VP,hVP⟩:∃v,yL p y=v:=⟨_,rfl⟩;rw[hVP]at HPt hVPl hVPo HPV2 v0 v1 v2 v3;have HVPl:=zD hVPl;have HVPo:=zD hVPo;have Hv:=zD (And.intro v0 (And.intro v1 (And.intro v2 v3)));have Hb1:=zD hb1;obtain⟨nc,hnc⟩:∃n,N.comps.length=n:=⟨_,rfl⟩;obtain⟨np,hnp⟩:∃n,N.parts.length=n:=⟨_,rfl⟩;obtain⟨nx,hnx⟩:∃n,N.ctxs.length=n:=⟨_,rfl⟩;rw[hnc,hnp,hnx,hpt]at HPt HSt HNd⊢;obtain⟨W0,hW0,k1,k2,B0⟩:=zeO w c 117 [.slice L.a1 nc L.c1,.slice L.a2 np L.c2,.slice L.a3 nx L.c3,.int .i64 (pt:Int),.int .i64 (k:Int),b];have hW0s:W0.heap.size=w.heap.size+2:=by rw[←hW0];simp
 obtain⟨W1,hW1⟩:∃W,W0.alloc (.cells zP 83)=W:=⟨_,rfl⟩;have b1:Below W0.heap.size W0 W1:=by rw[←hW1];exact(zF _ _).alloc (zE _) _
 have kR:Blk W1 (w.heap.size+2) (yL S14.P0 zcZ) 83:=by rw[←hW1,←hW0s];exact zdN W0
 have k2:=k2.step b1;have k1:=k1.step b1;have B1:=zA B0 b1;clear hnc hnp hnx hpt B0 b1 hVP hVPl hVPo hul hull hB hXX hnd hnx' hm hsb hsl2 hso v0 v1 v2 v3 hP hN hp hy hk hs hsl hcl hne hse hbare hb1 h1 h2 HPV1;obtain⟨kind,bits,limit,rate,first,second⟩:=c;unfold CV at HSt⊢;unfold zY at HSt k1 hW0⊢;simp only at HSt HUp k1 hW0⊢;have hR1:=kR.lt;have hCS:Cells W1 [(⟨w.heap.size+1,0,none⟩,.slice L.a1 nc L.c1),(⟨w.heap.size+1,1,none⟩,.slice L.a2 np L.c2),(⟨w.heap.size+1,2,none⟩,.slice L.a3 nx L.c3),(⟨w.heap.size+1,3,none⟩,.int .i64 (pt:Int)),(⟨w.heap.size+1,4,none⟩,.int .i64 (k:Int)),(⟨w.heap.size+1,5,none⟩,b),(⟨w.heap.size,0,none⟩,.int .i64 kind),(⟨w.heap.size,1,none⟩,.int .i64 bits),(⟨w.heap.size,2,none⟩,.int .i64 limit),(⟨w.heap.size,3,none⟩,.int .i64 rate),(⟨w.heap.size,4,none⟩,.int .i64 first),(⟨w.heap.size,5,none⟩,.int .i64 second)]:=⟨k2.cell 0,k2.cell 1,k2.cell 2,k2.cell 3,k2.cell 4,k2.cell 5,k1.cell 0,k1.cell 1,k1.cell 2,k1.cell 3,k1.cell 4,k1.cell 5,yJ⟩;clear k1;go_enter Tryz.func214,Tryz.ntmps214;go_wp2_with (first
  | (rw[hW0])
  | (refine yZ 83 zP zcG (by rfl) (by rfl) ?_;first|rw[hW1]|skip))
 refine zaI 7 1 (.read 0 (.read 2 (.read 3 (.two (.one 1 (.two (.one 4 (.one 5 (.one 6 .done))) (.one 5 (.one 4 (.one 6 .done))))) (.one 5 (.one 1 (.one 4 (.one 6 .done)))))))) _ _ o0P (fun K=>Below W1.heap.size W1 K∧Cells K [(⟨w.heap.size+1,0,none⟩,.slice L.a1 nc L.c1),(⟨w.heap.size+1,1,none⟩,.slice L.a2 np L.c2),(⟨w.heap.size+1,2,none⟩,.slice L.a3 nx L.c3),(⟨w.heap.size+1,3,none⟩,.int .i64 (pt:Int)),(⟨w.heap.size+1,4,none⟩,.int .i64 (k:Int)),(⟨w.heap.size+1,5,none⟩,b),(⟨w.heap.size,0,none⟩,.int .i64 kind),(⟨w.heap.size,1,none⟩,.int .i64 bits),(⟨w.heap.size,2,none⟩,.int .i64 limit),(⟨w.heap.size,3,none⟩,.int .i64 rate),(⟨w.heap.size,4,none⟩,.int .i64 first),(⟨w.heap.size,5,none⟩,.int .i64 second)]) (by kernel_rfl) (yI 7 _).symm (by kernel_rfl) (by kernel_rfl) (by kernel_rfl) (by kernel_rfl) (⟨(zF _ _).drew,hCS⟩) (fun Y Q4 F4 hY hF=> ?_);simp only[Plan.map,ltc,ltz,ldc,ldz,zcW,zdQ]
 repeat
  apply zO (by rw[hY];rfl)
  ·intro w2 hS2;(try simp only[Keeps,zfA,Cells]at hS2);go_simp;with_reducible rfl
  simp only[zsM]
 have fin:∀(b8:Nat) (wS:World),W1.heap.size≤b8→Blk wS b8 VP 83→Below W1.heap.size W1 wS→F4 {tmps:=#[.agg #[.int .i64 kind,.int .i64 bits,.int .i64 limit,.int .i64 rate,.int .i64 first,.int .i64 second],.agg #[.slice L.a1 nc L.c1,.slice L.a2 np L.c2,.slice L.a3 nx L.c3,.int .i64 (pt:Int),.int .i64 (k:Int),b],.int .i64 bit,.pointer (some ⟨w.heap.size,0,none⟩),.pointer (some ⟨(w.heap.size+1),0,none⟩),undef,.pointer (some ⟨(w.heap.size+2),0,none⟩),.int .i64 0,.pointer (some ⟨b8,0,none⟩),undef,undef,undef,.agg #[.slice L.a1 nc L.c1,.slice L.a2 np L.c2,.slice L.a3 nx L.c3,.int .i64 (pt:Int),.int .i64 (k:Int),b],.agg VP.toArray,.agg #[.int .i64 kind,.int .i64 bits,.int .i64 limit,.int .i64 rate,.int .i64 first,.int .i64 second],.agg #[.slice L.a1 nc L.c1,.slice L.a2 np L.c2,.slice L.a3 nx L.c3,.int .i64 (pt:Int),.int .i64 (k:Int),b],.int .i64 (s:Int),undef,undef,undef,undef,undef,undef,undef,undef,undef,undef,undef,undef,undef,undef,undef,undef,undef,undef,undef,undef,undef,undef,undef,undef,undef,undef,undef,undef,undef,undef,undef,undef,undef],defers:=[]} wS:=by
  intro b8 wS zb8 E3 hbS;refine hF _ _ (fun K hK=> ?_);clear hF hY;have HK:=zD hK;clear hK;go_wp2_with fail;refine OnlyK.mk (HK.out _ _ ?_);have kR3:=kR.step hbS;have k23:=k2.step hbS;have B3:=zA B1 hbS;have lim3:wS.cell? ⟨w.heap.size,2,none⟩=some (.int .i64 limit):=(Cells.step hbS hCS).2.2.2.2.2.2.2.2.1;obtain⟨v0,v1,v2,v3⟩:=Hv.out;clear hbS kR k2 B1;go_wp2_with fail;refine(HNx.out _).mono ?_;rintro e w4 ⟨rfl,hb4⟩;have E4:=E3.step hb4;have kR4:=kR3.step hb4;have k24:=k23.step hb4;have B4:=zA B3 hb4;have lim4:=(hb4.cell (zL lim3)).trans lim3;have e40:=(E4.cell 0).trans v0;clear E3 kR3 k23 B3 lim3 hb4;go_wp2_with fail;refine(HUp.out _ B4).mono ?_;rintro e w5 ⟨a,cap,rfl,hfar,hrd,hb5⟩;have E5:=E4.step hb5;have kR5:=kR4.step hb5;have k25:=k24.step hb5;have B5:=zA B4 hb5;have e50:=(E5.cell 0).trans v0;have f50:=E5.free 0;have hz4:b8<w4.heap.size:=E4.lt;have E6:=E5.set 0 (.slice a m cap);have kR6:=kR5.other b8 0 (.slice a m cap) (by omega);have k26:=k25.other b8 0 (.slice a m cap) (by omega);have gA:=zaO w5 b8 0 (.slice a m cap);have hrd6:=hrd.keptRow gA (fun g o e=>by have:=hfar g o e;omega);have B6:=B5.trans (yC gA (by omega) B5.size);have hs6:w5.heap.size≤(w5.setCell ⟨b8,0,none⟩ (.slice a m cap)).heap.size:=gA.size;obtain⟨w6,hw6⟩:∃W,w5.setCell ⟨b8,0,none⟩ (.slice a m cap)=W:=⟨_,rfl⟩;rw[hw6]at E6 kR6 k26 hrd6 B6 hs6;have hfar6:∀g o,a=some ⟨g,o,none⟩→w.heap.size+3≤g∧g≠b8:=fun g o e=>by have:=hfar g o e;omega
  have Hrd6:=zD hrd6;have Hfar6:=zD hfar6;clear E4 kR4 k24 B4 e40 lim4 hb5 hfar hrd gA E5 kR5 k25 hrd6 hfar6 hs6;have e61:w6.cell? ⟨b8,1,none⟩=some (.int .i64 sb):=(E6.cell 1).trans (by rw[List.getElem?_set_ne (by omega)];exact v1);have e62:w6.cell? ⟨b8,2,none⟩=some (.slice y.a2 sl y.c2):=(E6.cell 2).trans (by rw[List.getElem?_set_ne (by omega)];exact v2);have e63:w6.cell? ⟨b8,3,none⟩=some (.int .i64 so):=(E6.cell 3).trans (by rw[List.getElem?_set_ne (by omega)];exact v3);have hC6:zfA [(⟨w.heap.size+1,0,none⟩,.slice L.a1 nc L.c1),(⟨w.heap.size+1,1,none⟩,.slice L.a2 np L.c2),(⟨w.heap.size+1,2,none⟩,.slice L.a3 nx L.c3),(⟨w.heap.size+1,3,none⟩,.int .i64 (pt:Int)),(⟨w.heap.size+1,4,none⟩,.int .i64 (k:Int)),(⟨w.heap.size+1,5,none⟩,b),(⟨b8,1,none⟩,.int .i64 sb),(⟨b8,2,none⟩,.slice y.a2 sl y.c2),(⟨b8,3,none⟩,.int .i64 so)] w6.drew:=⟨k26.cell 0,k26.cell 1,k26.cell 2,k26.cell 3,k26.cell 4,k26.cell 5,e61,e62,e63,yJ⟩;clear e61 e62 e63 v0 v1 v2 v3 k26;go_wp2_with (first|(rw[hw6])|fail);refine zfK 12 13 1 [(.p,[true]),(.r,[false,true]),(.p,[false,false,true]),(.r,[false,false,false,true,true]),(.p,[false,false,false,false,false,false,true]),(.e,[false,false,false,false,false,true]),(.e,[false,false,false,false,false,false,false,true]),(.p,[false,false,false,false,false,false,false,false,true,true,true,true]),(.l,[false,false,false,false,false,false,false,false,false,false,false,false,true])] _ _ (zfA [(⟨w.heap.size+1,0,none⟩,.slice L.a1 nc L.c1),(⟨w.heap.size+1,1,none⟩,.slice L.a2 np L.c2),(⟨w.heap.size+1,2,none⟩,.slice L.a3 nx L.c3),(⟨w.heap.size+1,3,none⟩,.int .i64 (pt:Int)),(⟨w.heap.size+1,4,none⟩,.int .i64 (k:Int)),(⟨w.heap.size+1,5,none⟩,b),(⟨b8,1,none⟩,.int .i64 sb),(⟨b8,2,none⟩,.slice y.a2 sl y.c2),(⟨b8,3,none⟩,.int .i64 so)]) (by kernel_rfl) (yI 13 _).symm (by kernel_rfl) (by kernel_rfl) (by kernel_rfl) (by kernel_rfl) (hC6) (fun Y Q4 F4 hY hF=> ?_);simp only[ziO,lfc,lfn,ltc,ltz,ldc,ldz,zjH,zhA,znX,lmc,lmn,lca,lna,lan]
  repeat
   first
    | (apply zdS (by rw[hY];rfl)
       ·intro w2;go_simp;with_reducible rfl
       simp only[zsM])
    | (apply zdR (by rw[hY];rfl)
       ·intro w2 hS2;(try simp only[Keeps,zfA,Cells]at hS2);go_simp;with_reducible rfl
       simp only[zsM])
  have hbu0:Below w6.heap.size w6 w6.drew:=(zF _ _).drew;apply znK (by rw[hY];rfl)
  ·go_simp;with_reducible exact⟨rfl,rfl⟩
  refine(HNd.out _).mono ?_;rintro e u1 ⟨rfl,hbu10⟩;have hbu1:=zA hbu0 hbu10;refine⟨_,rfl,Cells.step hbu1 hC6,?_⟩;simp only[zsM]
  repeat
   first
    | (apply zdS (by rw[hY];rfl)
       ·intro w2;go_simp;with_reducible rfl
       simp only[zsM])
    | (apply zdR (by rw[hY];rfl)
       ·intro w2 hS2;(try simp only[Keeps,zfA,Cells]at hS2);go_simp;with_reducible rfl
       simp only[zsM])
  apply znK (by rw[hY];rfl)
  ·go_simp;with_reducible exact⟨rfl,rfl⟩
  refine(HSe.out _ (zA B6 hbu1)).mono ?_;rintro e u2 ⟨V,rfl,TOv,hbu20⟩;have hbu2:=zA hbu1 hbu20;obtain⟨aT,cT,rfl,hT,hF8⟩:=TOv.open Hok.out;have hsz1:=hbu1.size;have hE6:=E6.lt;unfold zgZ;refine⟨_,rfl,Cells.step hbu2 hC6,?_⟩;simp only[zsM]
  repeat
   first
    | (apply zdS (by rw[hY];rfl)
       ·intro w2;go_simp;with_reducible rfl
       simp only[zsM])
    | (apply zdR (by rw[hY];rfl)
       ·intro w2 hS2;(try simp only[Keeps,zfA,Cells]at hS2);go_simp;with_reducible rfl
       simp only[zsM])
  have E7:=E6.step hbu2;have kR7:=kR6.step hbu2;have B7:=zA B6 hbu2;have hrd7:=Hrd6.out.step hbu2;have hl7:(VP.set 0 (.slice a m cap)).length=16:=by rw[zaE];exact HVPl.out
  refine zrG 75 (.tmp 47) (.tmp 45) (by rfl) (by rw[hY];rfl) b8 1 #[.int .i64 B,.slice aT XX.length cT] (by rfl) (by rfl) (E7.there14 (o:=1) (n:=2) (by rw[hl7];decide)) zoV (by simp[Value.oneCell']) ?_;simp only[zsM];have E8:=E7.setCells [.int .i64 B,.slice aT XX.length cT] 1 (by rw[hl7];exact(by decide:1+2≤16));rw[←HPV2.out a aT cap cT]at E8;have g8:=yY b8 [.int .i64 B,.slice aT XX.length cT] 1 u2;have kR8:=kR7.keptRow g8 (by intro e;have:=zJ e;omega);have hk8:KepX (fun k=>k=b8) u2 (u2.setCells b8 1 [.int .i64 B,.slice aT XX.length cT]):=KepX.row g8 (fun b e=>.inl (zJ e).symm);have hrd8:=hrd7.kepX hk8 (fun g o e=>(Hfar6.out g o e).2);have hT8:=hT.kepX hk8 (fun g o e=>by have:=hF8 g o e;show¬g=b8;omega);have B8:=B7.trans (yC g8 (by omega) B7.size);have hF9:Fr aT (w.heap.size+3):=hF8.mono (by omega);obtain⟨u3,hu3⟩:∃W,u2.setCells b8 1 [.int .i64 B,.slice aT XX.length cT]=W:=⟨_,rfl⟩;rw[hu3]at E8 kR8 hrd8 hT8 B8;have hu3':u2.setCells b8 1 (#[.int .i64 B,.slice aT XX.length cT]:Array Value).toList=u3:=hu3;rw[hu3'];have Hrd8:=zD hrd8;have HT8:=zD hT8;have HF9:=zD hF9;clear E6 E7 kR6 kR7 B6 B7 hrd7 g8 hk8 hrd8 hT8 hF9 hF8 hT TOv hbu20 hbu10 hbu2 hbu1 hbu0 hC6 hu3 hu3';refine ziL (hF.out _ _ (fun K hK=> ?_));clear hF hY;go_wp2_with fail;refine OnlyK.mk (hK.out _ _ ?_);clear hK;go_wp2_with (first
   | (refine yE 83 (.tmp 8) (by rfl) (by rfl) b8 (by rfl) (yL {p with ctrs:=ul,sb:=B,sd:=XX} {y with a1:=a,c1:=cap,a2:=aT,c2:=cT}) 83 E8 _ Tryz.underlying83 rfl (info_P.trans rfl) ?_)
   | (refine yD 83 (.tmp 6) (.tmp 48) (by rfl) (by rfl) (w.heap.size+2) (by rfl) (yL {p with ctrs:=ul,sb:=B,sd:=XX} {y with a1:=a,c1:=cap,a2:=aT,c2:=cT}) (by rfl) _ 83 kR8 (info_P.trans rfl) rfl (zaG _ _) ?_;intro wL EL gL sL))
  have hL:=run_loadVar_mid wL _ 0 _ _ _ EL.cells Tryz.underlying83 rfl (info_P.trans rfl);refine bodyPost_ret (v:=.tuple #[.agg (yL {p with ctrs:=ul,sb:=B,sd:=XX} {y with a1:=a,c1:=cap,a2:=aT,c2:=cT}).toArray,.int .i64 0]) ?_ rfl ?_
  ·exact zaL (show Tryz.f214.results = #[.cell 6 83,.tmp 7]from rfl) (p:=⟨w.heap.size+2,0,none⟩) rfl rfl hL
  ·refine⟨{y with a1:=a,c1:=cap,a2:=aT,c2:=cT},rfl,fun w' hk=> ?_,B8.trans (yC gL (by omega) B8.size)⟩;have hX:KepX (fun k=>k<w.heap.size+3) _ w':=(KepX.row gL (fun b e=>.inl (by show b<_;have:=zJ e;omega))).trans (hk.toX14.mono0 (by omega));exact HPI.out a aT cap cT w' (Hrd8.out.kepX hX (fun g o e=>by have:=(Hfar6.out g o e).1;show¬g<_;omega)) (HT8.out.kepX hX (fun g o e=>by have:=HF9.out g o e;show¬g<_;omega))
 have hbv0:Below W1.heap.size W1 W1.drew:=(zF _ _).drew;obtain⟨v0,hv0⟩:∃v,W1.drew=v:=⟨_,rfl⟩;rw[hv0]at hbv0⊢;refine yW ?_ ?_
 ·skip
  apply zV (by rw[hY];rfl)
  ·go_simp;with_reducible exact⟨rfl,rfl⟩
  refine(HPt.out _ (zA B1 hbv0)).mono ?_;rintro e v1 ⟨rfl,hbv10⟩;have hbv1:=zA hbv0 hbv10;clear hbv10;refine⟨_,rfl,⟨hbv1,Cells.step hbv1 hCS⟩,?_⟩;simp only[zsM];refine yW ?_ ?_
  ·skip
   apply zV (by rw[hY];rfl)
   ·go_simp;with_reducible exact⟨rfl,rfl⟩
   refine(HSt.out _ (zA B1 hbv1)).mono ?_;rintro e v2 ⟨rfl,hbv20⟩;have hbv2:=zA hbv1 hbv20;clear hbv20;refine⟨_,rfl,⟨hbv2,Cells.step hbv2 hCS⟩,?_⟩;simp only[zsM];have hbv30:Below v2.heap.size v2 (v2.alloc (.cells #[.slice none 0 0,.int .i64 0,.slice none 0 0,.int .i64 0,.int .i64 0,.int .i64 0,.slice none 0 0,.slice none 0 0,.int .i64 0,.int .i64 0,.int .i64 0,.int .i64 0,.slice none 0 0,.int .i64 0,.slice none 0 0,.slice none 0 0] 83)):=(zF _ _).alloc (zE _) _;have hbv3:=zA hbv2 hbv30;refine yG (by rw[hY];rfl) (by go_simp;first|with_reducible exact⟨rfl,rfl⟩|with_reducible rfl) ((show Below W1.heap.size W1 (v2.alloc (.cells #[.slice none 0 0,.int .i64 0,.slice none 0 0,.int .i64 0,.int .i64 0,.int .i64 0,.slice none 0 0,.slice none 0 0,.int .i64 0,.int .i64 0,.int .i64 0,.int .i64 0,.slice none 0 0,.int .i64 0,.slice none 0 0,.slice none 0 0] 83))∧Cells (v2.alloc (.cells #[.slice none 0 0,.int .i64 0,.slice none 0 0,.int .i64 0,.int .i64 0,.int .i64 0,.slice none 0 0,.slice none 0 0,.int .i64 0,.int .i64 0,.int .i64 0,.int .i64 0,.slice none 0 0,.int .i64 0,.slice none 0 0,.slice none 0 0] 83)) [(⟨w.heap.size+1,0,none⟩,.slice L.a1 nc L.c1),(⟨w.heap.size+1,1,none⟩,.slice L.a2 np L.c2),(⟨w.heap.size+1,2,none⟩,.slice L.a3 nx L.c3),(⟨w.heap.size+1,3,none⟩,.int .i64 (pt:Int)),(⟨w.heap.size+1,4,none⟩,.int .i64 (k:Int)),(⟨w.heap.size+1,5,none⟩,b),(⟨w.heap.size,0,none⟩,.int .i64 kind),(⟨w.heap.size,1,none⟩,.int .i64 bits),(⟨w.heap.size,2,none⟩,.int .i64 limit),(⟨w.heap.size,3,none⟩,.int .i64 rate),(⟨w.heap.size,4,none⟩,.int .i64 first),(⟨w.heap.size,5,none⟩,.int .i64 second)]from⟨hbv3,Cells.step hbv3 hCS⟩)) ?_;simp only[zsM];have kN:=Blk.new v2 [.slice none 0 0,.int .i64 0,.slice none 0 0,.int .i64 0,.int .i64 0,.int .i64 0,.slice none 0 0,.slice none 0 0,.int .i64 0,.int .i64 0,.int .i64 0,.int .i64 0,.slice none 0 0,.int .i64 0,.slice none 0 0,.slice none 0 0] 83;have zN:W1.heap.size≤v2.heap.size:=hbv2.size;obtain⟨b8,hb8⟩:∃x,v2.heap.size=x:=⟨_,rfl⟩;clear hbv30;rw[hb8]at kN zN⊢;obtain⟨v3,hv3⟩:∃v,(v2.alloc (.cells #[.slice none 0 0,.int .i64 0,.slice none 0 0,.int .i64 0,.int .i64 0,.int .i64 0,.slice none 0 0,.slice none 0 0,.int .i64 0,.int .i64 0,.int .i64 0,.int .i64 0,.slice none 0 0,.int .i64 0,.slice none 0 0,.slice none 0 0] 83))=v:=⟨_,rfl⟩;rw[hv3]at hbv3 kN⊢;refine yP 83 (.tmp 8) (.tmp 13) (by rfl) (by rw[hY];rfl) b8 (by rfl) VP (by rfl) _ 83 kN (info_P.trans (yN some HVPl.out.symm)) HVPl.out.symm HVPo.out ?_;intro wS ES gS sS;have hbS:Below W1.heap.size W1 wS:=hbv3.trans (yC gS zN hbv3.size);refine⟨⟨hbS,Cells.step hbS hCS⟩,?_⟩;simp only[zsM];exact yO (fin _ wS zN ES hbS)
  ·skip
   have hbv20:Below v1.heap.size v1 (v1.alloc (.cells #[.slice none 0 0,.int .i64 0,.slice none 0 0,.int .i64 0,.int .i64 0,.int .i64 0,.slice none 0 0,.slice none 0 0,.int .i64 0,.int .i64 0,.int .i64 0,.int .i64 0,.slice none 0 0,.int .i64 0,.slice none 0 0,.slice none 0 0] 83)):=(zF _ _).alloc (zE _) _;have hbv2:=zA hbv1 hbv20;refine yG (by rw[hY];rfl) (by go_simp;first|with_reducible exact⟨rfl,rfl⟩|with_reducible rfl) ((show Below W1.heap.size W1 (v1.alloc (.cells #[.slice none 0 0,.int .i64 0,.slice none 0 0,.int .i64 0,.int .i64 0,.int .i64 0,.slice none 0 0,.slice none 0 0,.int .i64 0,.int .i64 0,.int .i64 0,.int .i64 0,.slice none 0 0,.int .i64 0,.slice none 0 0,.slice none 0 0] 83))∧Cells (v1.alloc (.cells #[.slice none 0 0,.int .i64 0,.slice none 0 0,.int .i64 0,.int .i64 0,.int .i64 0,.slice none 0 0,.slice none 0 0,.int .i64 0,.int .i64 0,.int .i64 0,.int .i64 0,.slice none 0 0,.int .i64 0,.slice none 0 0,.slice none 0 0] 83)) [(⟨w.heap.size+1,0,none⟩,.slice L.a1 nc L.c1),(⟨w.heap.size+1,1,none⟩,.slice L.a2 np L.c2),(⟨w.heap.size+1,2,none⟩,.slice L.a3 nx L.c3),(⟨w.heap.size+1,3,none⟩,.int .i64 (pt:Int)),(⟨w.heap.size+1,4,none⟩,.int .i64 (k:Int)),(⟨w.heap.size+1,5,none⟩,b),(⟨w.heap.size,0,none⟩,.int .i64 kind),(⟨w.heap.size,1,none⟩,.int .i64 bits),(⟨w.heap.size,2,none⟩,.int .i64 limit),(⟨w.heap.size,3,none⟩,.int .i64 rate),(⟨w.heap.size,4,none⟩,.int .i64 first),(⟨w.heap.size,5,none⟩,.int .i64 second)]from⟨hbv2,Cells.step hbv2 hCS⟩)) ?_;simp only[zsM];have kN:=Blk.new v1 [.slice none 0 0,.int .i64 0,.slice none 0 0,.int .i64 0,.int .i64 0,.int .i64 0,.slice none 0 0,.slice none 0 0,.int .i64 0,.int .i64 0,.int .i64 0,.int .i64 0,.slice none 0 0,.int .i64 0,.slice none 0 0,.slice none 0 0] 83;have zN:W1.heap.size≤v1.heap.size:=hbv1.size;obtain⟨b8,hb8⟩:∃x,v1.heap.size=x:=⟨_,rfl⟩;clear hbv20;rw[hb8]at kN zN⊢;obtain⟨v2,hv2⟩:∃v,(v1.alloc (.cells #[.slice none 0 0,.int .i64 0,.slice none 0 0,.int .i64 0,.int .i64 0,.int .i64 0,.slice none 0 0,.slice none 0 0,.int .i64 0,.int .i64 0,.int .i64 0,.int .i64 0,.slice none 0 0,.int .i64 0,.slice none 0 0,.slice none 0 0] 83))=v:=⟨_,rfl⟩;rw[hv2]at hbv2 kN⊢;apply zV (by rw[hY];rfl)
   ·go_simp;with_reducible exact⟨rfl,rfl⟩
   refine(HSt.out _ (zA B1 hbv2)).mono ?_;rintro e v3 ⟨rfl,hbv30⟩;have hbv3:=zA hbv2 hbv30;have kN:=kN.step hbv30;clear hbv30;refine⟨_,rfl,⟨hbv3,Cells.step hbv3 hCS⟩,?_⟩;simp only[zsM];refine yP 83 (.tmp 8) (.tmp 13) (by rfl) (by rw[hY];rfl) b8 (by rfl) VP (by rfl) _ 83 kN (info_P.trans (yN some HVPl.out.symm)) HVPl.out.symm HVPo.out ?_;intro wS ES gS sS;have hbS:Below W1.heap.size W1 wS:=hbv3.trans (yC gS zN hbv3.size);refine⟨⟨hbS,Cells.step hbS hCS⟩,?_⟩;simp only[zsM];exact yO (fin _ wS zN ES hbS)
 ·skip
  have hbv10:Below v0.heap.size v0 (v0.alloc (.cells #[.slice none 0 0,.int .i64 0,.slice none 0 0,.int .i64 0,.int .i64 0,.int .i64 0,.slice none 0 0,.slice none 0 0,.int .i64 0,.int .i64 0,.int .i64 0,.int .i64 0,.slice none 0 0,.int .i64 0,.slice none 0 0,.slice none 0 0] 83)):=(zF _ _).alloc (zE _) _;have hbv1:=zA hbv0 hbv10;refine yG (by rw[hY];rfl) (by go_simp;first|with_reducible exact⟨rfl,rfl⟩|with_reducible rfl) ((show Below W1.heap.size W1 (v0.alloc (.cells #[.slice none 0 0,.int .i64 0,.slice none 0 0,.int .i64 0,.int .i64 0,.int .i64 0,.slice none 0 0,.slice none 0 0,.int .i64 0,.int .i64 0,.int .i64 0,.int .i64 0,.slice none 0 0,.int .i64 0,.slice none 0 0,.slice none 0 0] 83))∧Cells (v0.alloc (.cells #[.slice none 0 0,.int .i64 0,.slice none 0 0,.int .i64 0,.int .i64 0,.int .i64 0,.slice none 0 0,.slice none 0 0,.int .i64 0,.int .i64 0,.int .i64 0,.int .i64 0,.slice none 0 0,.int .i64 0,.slice none 0 0,.slice none 0 0] 83)) [(⟨w.heap.size+1,0,none⟩,.slice L.a1 nc L.c1),(⟨w.heap.size+1,1,none⟩,.slice L.a2 np L.c2),(⟨w.heap.size+1,2,none⟩,.slice L.a3 nx L.c3),(⟨w.heap.size+1,3,none⟩,.int .i64 (pt:Int)),(⟨w.heap.size+1,4,none⟩,.int .i64 (k:Int)),(⟨w.heap.size+1,5,none⟩,b),(⟨w.heap.size,0,none⟩,.int .i64 kind),(⟨w.heap.size,1,none⟩,.int .i64 bits),(⟨w.heap.size,2,none⟩,.int .i64 limit),(⟨w.heap.size,3,none⟩,.int .i64 rate),(⟨w.heap.size,4,none⟩,.int .i64 first),(⟨w.heap.size,5,none⟩,.int .i64 second)]from⟨hbv1,Cells.step hbv1 hCS⟩)) ?_;simp only[zsM];have kN:=Blk.new v0 [.slice none 0 0,.int .i64 0,.slice none 0 0,.int .i64 0,.int .i64 0,.int .i64 0,.slice none 0 0,.slice none 0 0,.int .i64 0,.int .i64 0,.int .i64 0,.int .i64 0,.slice none 0 0,.int .i64 0,.slice none 0 0,.slice none 0 0] 83;have zN:W1.heap.size≤v0.heap.size:=hbv0.size;obtain⟨b8,hb8⟩:∃x,v0.heap.size=x:=⟨_,rfl⟩;clear hbv10;rw[hb8]at kN zN⊢;obtain⟨v1,hv1⟩:∃v,(v0.alloc (.cells #[.slice none 0 0,.int .i64 0,.slice none 0 0,.int .i64 0,.int .i64 0,.int .i64 0,.slice none 0 0,.slice none 0 0,.int .i64 0,.int .i64 0,.int .i64 0,.int .i64 0,.slice none 0 0,.int .i64 0,.slice none 0 0,.slice none 0 0] 83))=v:=⟨_,rfl⟩;rw[hv1]at hbv1 kN⊢;apply zV (by rw[hY];rfl)
  ·go_simp;with_reducible exact⟨rfl,rfl⟩
  refine(HPt.out _ (zA B1 hbv1)).mono ?_;rintro e v2 ⟨rfl,hbv20⟩;have hbv2:=zA hbv1 hbv20;have kN:=kN.step hbv20;clear hbv20;refine⟨_,rfl,⟨hbv2,Cells.step hbv2 hCS⟩,?_⟩;simp only[zsM];apply zV (by rw[hY];rfl)
  ·go_simp;with_reducible exact⟨rfl,rfl⟩
  refine(HSt.out _ (zA B1 hbv2)).mono ?_;rintro e v3 ⟨rfl,hbv30⟩;have hbv3:=zA hbv2 hbv30;have kN:=kN.step hbv30;clear hbv30;refine⟨_,rfl,⟨hbv3,Cells.step hbv3 hCS⟩,?_⟩;simp only[zsM];refine yP 83 (.tmp 8) (.tmp 13) (by rfl) (by rw[hY];rfl) b8 (by rfl) VP (by rfl) _ 83 kN (info_P.trans (yN some HVPl.out.symm)) HVPl.out.symm HVPo.out ?_;intro wS ES gS sS;have hbS:Below W1.heap.size W1 wS:=hbv3.trans (yC gS zN hbv3.size);refine⟨⟨hbS,Cells.step hbS hCS⟩,?_⟩;simp only[zsM];exact yO (fin _ wS zN ES hbS)
theorem fresh_all(l:List S14.C)(hl:l.length≤16):zlU l S14.freshA:=fun k c hc hok W=>by
 have hi:=S14.ok_is hok;have hk:=(List.getElem?_eq_some_iff.1 hc).1;unfold zrE S14.freshA;rcases hi.kind with h|h|h|h|h|h|h
 ·rw[zQ h,zI (by omega),zI (by omega),zI (by omega),zI (by omega),zI (by omega)];exact(zgT c W).mono fun e w' h=>⟨zcZ,h.1,PRob.zero _ _ _,h.2⟩
 ·rw[zI (by omega),zQ h,zQ h];exact ziG c c.bits.toNat _ (by have:=hi.bits;omega) (zaD hi.bits.1) rfl W
 ·rw[zI (by omega),zI (by omega),zQ h,zI (by omega),zQ h];exact zoZ c W
 ·rw[zI (by omega),zI (by omega),zI (by omega),zQ h,zI (by omega),zI (by omega),zQ h];exact zoS c W
 ·rw[zI (by omega),zI (by omega),zI (by omega),zI (by omega),zQ h,zI (by omega),zI (by omega),zI (by omega),zI (by omega),zI (by omega)];exact(zhR c W).mono fun e w' h=>⟨zcZ,h.1,PRob.zero _ _ _,h.2⟩
 ·rw[zI (by omega),zI (by omega),zI (by omega),zI (by omega),zI (by omega),zQ h,zI (by omega),zI (by omega),zI (by omega),zQ h];have hm:=hi.mix h;have H:=zrV c c.bits.toNat _ (c.second-c.first+1).toNat (by have:=hi.bits;omega) (zaD hi.bits.1) rfl ⟨hm.1,hm.2.1,by omega⟩ (zaD (by omega)) (by omega) W;rw[←zaD (by omega)]at H;exact H
 ·rw[zI (by omega),zI (by omega),zI (by omega),zI (by omega),zI (by omega),zI (by omega),zI (by omega),zI (by omega),zI (by omega),zI (by omega),zQ h];exact zoD c c.bits.toNat _ (by have:=hi.bits;omega) (zaD hi.bits.1) rfl W
theorem rate14{c:S14.C}{k:Int}(h:c.kind=5∨c.kind=6)(hok:S14.ok c k=true):1≤c.rate∧c.rate≤255:=by
 unfold S14.ok at hok;rcases h with h|h
 ·rw[zI (by omega),zI (by omega),zI (by omega),zI (by omega),zI (by omega),zQ h]at hok;unfold S14.okMix at hok;simp only[zS,S14.has_iff]at hok;omega
 ·rw[zI (by omega),zI (by omega),zI (by omega),zI (by omega),zI (by omega),zI (by omega),zQ h]at hok;unfold S14.okRefine at hok;simp only[zS,S14.has_iff]at hok;omega
theorem learnF_all{N:S14.N}{t:Nat}(hg:GoodN N t)(ht:t<65536){bit:Int}(hb:bit=0∨bit=1)(L:NLay)(w:World)(hN:NIs N L w):zhW N L w (S14.outA N) (S14.learnA N bit) bit:=fun k c hc a W hW hrd=>by
 have h0:=hg.net;obtain⟨p,y,hp,hy,hP,hk1,hk2,hok,hr,hp1,hp2⟩:=sees14 hN h0 hc;have hi:=S14.ok_is hok;have hG:=hg.ps k c p hc hp;have hO:=S14.outs_in (zoI N L w hN h0) k (Nat.le_of_lt (List.getElem?_eq_some_iff.1 hc).1);have hNW:=hN.step hW;have hpt:=zaD (b:=N.part) (by omega);have hk16:k<16:=by rw[←hg.xl];exact hk2
 unfold S14.learnA S14.learnP zrD;rw[zbW hc,zbW hp];rcases hi.kind with h|h|h|h|h|h|h
 ·rw[zQ h,zI (by omega),zI (by omega),zI (by omega),zI (by omega),zI (by omega)];exact(zgS N L k c _ rfl bit W hNW hk1 p y hp hy).mono fun e w' h2=>⟨y,h2.1,fun w2 _=>hP.bare14 ((zcN (.inl h)).1 hr),h2.2⟩
 ·rw[zI (by omega),zQ h,zQ h];exact zhL c N L k _ rfl p y c.bits.toNat bit W ((zeH h).1 hr).1 hNW hc hp hy hk2 N.part.toNat hpt (by omega) (zaD hi.bits.1) (by have:=hi.bits;omega) (okCtrs_iff.1 ((zeH h).1 hr).2).1
 ·rw[zI (by omega),zI (by omega),zQ h,zI (by omega),zQ h];obtain⟨g1,g2,g3,g4,g5,g6⟩:=hG.hist h hg.pt hb;exact zoY c N L k _ rfl p y (S14.st N p) bit W hNW hp hy N.part.toNat hpt (by omega) (by omega) g1 (by omega) (by omega) g4 g6 ((zdV h).1 hr).2
 ·rw[zI (by omega),zI (by omega),zI (by omega),zQ h,zI (by omega),zI (by omega),zQ h];obtain⟨⟨⟨⟨h1,h2⟩,h3⟩,h4⟩,h5⟩:=(zgE h).1 hr;exact zoR c N L k _ rfl p y bit W hNW hp hy (S12.bitE_ok ((S12.check_iff p.m).1 h5) hb (by have:=hG.few;omega)) h1
 ·rw[zI (by omega),zI (by omega),zI (by omega),zI (by omega),zQ h,zI (by omega),zI (by omega),zI (by omega),zI (by omega),zI (by omega)];exact(zhQ N L k c _ rfl bit W hNW hk1 p y hp hy).mono fun e w' h2=>⟨y,h2.1,fun w2 _=>hP.bare14 ((zcN (.inr h)).1 hr),h2.2⟩
 ·have hm:=hi.mix h;obtain⟨g,o,rfl,_⟩:=hrd (fun e=>by have h1:=yN List.length e;rw[yM,S14.outs_length,List.length_nil]at h1;omega);rw[zI (by omega),zI (by omega),zI (by omega),zI (by omega),zI (by omega),zQ h,zI (by omega),zI (by omega),zI (by omega),zQ h]
  exact zrU c N L k g o p y c.bits.toNat c.first.toNat c.second.toNat (S14.outs (S14.outA N) k) bit W hNW hc hp hy hk2 N.part.toNat hpt (by omega) (zaD hi.bits.1) (by have:=hi.bits;omega) (zaD hm.1) (zaD (by omega)) (by omega) (by omega) (by omega) (S14.outs_length _ _) hrd
   (hG.mix h hi.bits hm hO) (by omega) (rate14 (.inl h) hok) ((zhB h).1 hr).1.1.1
 ·have hf:=zoE h hok;obtain⟨g,o,rfl,_⟩:=hrd (fun e=>by have h1:=yN List.length e;rw[yM,S14.outs_length,List.length_nil]at h1;omega);rw[zI (by omega),zI (by omega),zI (by omega),zI (by omega),zI (by omega),zI (by omega),zI (by omega),zI (by omega),zI (by omega),zI (by omega),zQ h];obtain⟨⟨h1,h2⟩,h3⟩:=(zeG h).1 hr
  exact zoC c N L k g o p y c.bits.toNat c.first.toNat (S14.outs (S14.outA N) k) bit W hNW hc hp hy hk2 N.part.toNat hpt (by omega) (zaD hi.bits.1) (by have:=hi.bits;omega) (zaD hf.1) (by omega) (S14.outs_length _ _) hrd
   (hG.refine h hi.bits _) (by have:=(zpM h3).1;omega) hb (rate14 (.inr h) hok) h1
def NetE(E:Nat→Prop)(N:S14.N)(VS:List Value)(w:World):Prop:=∃L,VS=zcK N L∧∀W,KepX E w W→NIs N L W
theorem NetE.kep{E:Nat→Prop}{N:S14.N}{VS:List Value}{w w':World}(h:NetE E N VS w)(hk:KepX E w w'):NetE E N VS w':=h.imp fun _ e=>⟨e.1,fun W hW=>e.2 W (hk.trans hW)⟩
theorem NetE.mono{E E':Nat→Prop}{N:S14.N}{VS:List Value}{w:World}(h:NetE E N VS w)(he:∀k,k<w.heap.size→E' k→E k):NetE E' N VS w:=h.imp fun _ e=>⟨e.1,fun W hW=>e.2 W (hW.mono he)⟩
theorem NetE.step{E:Nat→Prop}{N:S14.N}{VS:List Value}{w w':World}(h:NetE E N VS w)(hb:Below w.heap.size w w'):NetE E N VS w':=h.kep (KepX.below hb)
theorem NetE.len{E:Nat→Prop}{N:S14.N}{VS:List Value}{w:World}(h:NetE E N VS w):VS.length=4:=by obtain⟨L,rfl,_⟩:=h;rfl
theorem NetE.one{E:Nat→Prop}{N:S14.N}{VS:List Value}{w:World}(h:NetE E N VS w):∀v∈VS,v.oneCell'=true:=by
 obtain⟨L,rfl,_⟩:=h;intro v hv;simp only[zcK,List.mem_cons,zbO,or_false]at hv;rcases hv with rfl|rfl|rfl|rfl<;>rfl
theorem NetE.is{E:Nat→Prop}{N:S14.N}{VS:List Value}{w:World}(h:NetE E N VS w):∃L,VS=zcK N L∧NIs N L w:=by
 obtain⟨L,e,h⟩:=h;exact⟨L,e,h w (KepX.refl _ _)⟩
theorem GoodN.opens{N:S14.N}{t:Nat}(h:GoodN N t)(w:World):zfW w N (S14.opened N):=
 have hz:=S14.check_zero h.check
 zrQ w N hz.1 hz.2.1 (S14.kinds_of h.check) h.len h.xl h.pt.1 h.pt.2
theorem new_all{l:List S14.C}(h:S14.check l=0)(a:Option Addr)(cap:Nat)(w:World)(hrd:Rd w a (zfX l)) :
 Calls Tryz.prog 15 #[.slice a l.length cap] w fun e w'=>∃VS,e = .returned (.tuple #[.agg VS.toArray,.int .i64 0])∧NetE (fun k=>k<w.heap.size) (S14.opened (S14.newN l)) VS w'∧Below w.heap.size w w':=
 (zhV l S14.freshA (S14.opened (S14.newN l)) a cap w hrd h (fresh_all l (S14.check_zero h).2.1) ((GoodN.new h).opens w)).mono fun e w' ⟨L,h1,h2,h3⟩=>⟨_,h1,⟨L,rfl,h2⟩,h3⟩
def S14.learnN(N:S14.N)(bit:Int):S14.N:=if S14.next N.part bit=1∨16≤S14.next N.part bit∧S14.next N.part bit≤31 then S14.opened (S14.learned N bit)else S14.learned N bit
theorem GoodN.learnN{N:S14.N}{t:Nat}(h:GoodN N t)(ht:t<65536){bit:Int}(hb:bit=0∨bit=1):GoodN (S14.learnN N bit) (t+1):=by
 unfold S14.learnN;split
 ·exact(h.learn ht hb).open_
 ·exact h.learn ht hb
theorem learn_all{N:S14.N}{t:Nat}(hg:GoodN N t)(ht:t<65536){bit:Int}(hb:bit=0∨bit=1){E:Nat→Prop}(VS:List Value)(w:World)(hV:NetE E N VS w) :
 Calls Tryz.prog 25 #[.agg VS.toArray,.int .i64 bit] w fun e w'=>∃VS',e = .returned (.tuple #[.agg VS'.toArray,.int .i64 0])∧NetE (fun k=>k<w.heap.size) (S14.learnN N bit) VS' w'∧Below w.heap.size w w':=by
 obtain⟨L,rfl,hN⟩:=hV.is;refine(zjS N (S14.learnN N bit) L (S14.outA N) (S14.learnA N bit) bit w hN (zhC N L w hN) hg.net (zoI N L w hN hg.net) hb (learnF_all hg ht hb L w hN) (fun h=> ?_) (fun h=> ?_)).mono fun e w' ⟨L',h1,h2,h3⟩=>⟨_,h1,⟨L',rfl,h2⟩,h3⟩
 ·have e:S14.learnN N bit=S14.opened (S14.learned N bit):=zQ h;rw[e];exact(hg.learn ht hb).opens w
 ·exact zI h
theorem ctx_all{w:World}{N:S14.N}{t:Nat}(hg:GoodN N t)(h1:N.part=1){l:List Nat}(hl:l.length=16)(hlx:∀x∈l,x<4294967296){E:Nat→Prop}(hE:∀k,E k→k<w.heap.size)(VS:List Value)(a:Option Addr)(cap:Nat)(hV:NetE E N VS w)(hrd:Rd w a (zsF l)) :
 Calls Tryz.prog 27 #[.agg VS.toArray,.slice a 16 cap] w fun e w'=>∃VS',e = .returned (.tuple #[.agg VS'.toArray,.int .i64 0])∧NetE E (S14.opened (S14.withCtxs N l)) VS' w'∧Below w.heap.size w w':=by
 obtain⟨L,rfl,hN⟩:=hV;have hN0:=hN w (KepX.refl _ _);have e:S14.withCtxs N l=⟨N.comps,N.parts,l,1⟩:=by unfold S14.withCtxs;rw[h1]
 have hO:=(hg.ctxs hl).opens w;rw[e]at hO⊢;exact(zpG N _ L l a cap w E hE hN (zhC N L w hN0) hg.net h1 hl hlx hrd hO).mono fun e w' ⟨L',h1,h2,h3⟩=>⟨_,h1,⟨L',rfl,h2⟩,h3⟩
theorem outs_all{N:S14.N}{t:Nat}(hg:GoodN N t){E:Nat→Prop}(VS:List Value)(w:World)(hV:NetE E N VS w):Calls Tryz.prog 20 #[.agg VS.toArray] w fun e w'=>
 ∃a cap,e = .returned (.tuple #[.slice a N.comps.length cap,.int .i64 0])∧Rd w' a (zaC (S14.outs (S14.outA N) N.comps.length))∧(∀g o,a=some ⟨g,o,none⟩→w.heap.size≤g)∧N.comps.length≤cap∧Below w.heap.size w w':=by
 obtain⟨L,rfl,hN⟩:=hV.is;exact zdL N L (S14.outA N) w hN (zhC N L w hN) hg.net (zoI N L w hN hg.net)
theorem pred_all{N:S14.N}{t:Nat}(hg:GoodN N t){E:Nat→Prop}(VS:List Value)(w:World)(hV:NetE E N VS w):Calls Tryz.prog 22 #[.agg VS.toArray] w fun e w'=>
 e = .returned (.tuple #[.int .i64 (S06.squash ((S14.outs (S14.outA N) N.comps.length).getD (N.comps.length-1) 0)),.int .i64 0])∧Below w.heap.size w w':=by
 obtain⟨L,rfl,hN⟩:=hV.is;exact zcX N L (S14.outA N) w hN (zhC N L w hN) hg.net (zoI N L w hN hg.net)
theorem check_all{N:S14.N}{t:Nat}(hg:GoodN N t){E:Nat→Prop}(VS:List Value)(w:World)(hV:NetE E N VS w):Calls Tryz.prog 18 #[.agg VS.toArray] w fun e w'=>e = .returned (.int .i64 0)∧Below w.heap.size w w':=by
 obtain⟨L,rfl,hN⟩:=hV.is;have h:=zfQ N L w hN (by have:=(S14.check_zero hg.check).2.1;omega) (zhC N L w hN);rw[hg.net]at h;exact h
theorem outs_bound{N:S14.N}{t:Nat}(hg:GoodN N t){E:Nat→Prop}{VS:List Value}{w:World}(hV:NetE E N VS w):∀x∈S14.outs (S14.outA N) N.comps.length,-3071≤x∧x≤3071:=by
 obtain⟨L,rfl,hN⟩:=hV.is;exact S14.outs_in (zoI N L w hN hg.net) _ (zE _)
theorem KepX.grow{E E':Nat→Prop}{a b c:World}(h1:KepX E a b)(h2:KepX E' b c)(he:∀k,k<a.heap.size→E' k→E k):KepX E a c:=
 ⟨h2.os.trans h1.os,h2.tape.trans h1.tape,h2.output.trans h1.output,zZ h1.size h2.size,fun k hE hl=>(h2.same k (fun h=>hE (he k hl h)) (zaV hl h1.size)).trans (h1.same k hE hl)⟩
theorem NetE.grow{E E':Nat→Prop}{N:S14.N}{VS:List Value}{w w':World}(h:NetE E N VS w)(hk:KepX E w w')(he:∀k,k<w.heap.size→E' k→E k):NetE E' N VS w':=h.imp fun _ e=>⟨e.1,fun W hW=>e.2 W (hk.grow hW he)⟩
def bitAt(x j:Nat):Int:=bits BinOp.and IntKind.u8 ((x:Int)/2^(7-j)) 1
inductive Ev where
 | ctx (la:Nat)
 | bit (b:Int)
def zmV(x:Nat):List Ev:=(List.range 8).map fun j=>Ev.bit (bitAt x j)
theorem bitEvs_drop(x:Nat){j:Nat}(h:j<8):(zmV x).drop j=Ev.bit (bitAt x j)::(zmV x).drop (j+1):=by
 obtain rfl|rfl|rfl|rfl|rfl|rfl|rfl|rfl:j=0∨j=1∨j=2∨j=3∨j=4∨j=5∨j=6∨j=7:=by omega
 all_goals rfl
def evs:Nat→List Int→List Ev
 | _,[]=>[]
 | la,x::xs=>.ctx la::(zmV x.toNat++evs x.toNat xs)
def S14.ev(N:S14.N):Ev→S14.N
 | .ctx la=>S14.opened (S14.withCtxs N (ctxL la))
 | .bit b=>S14.learnN N b
def S14.runH:List Ev→S14.N→List S14.N
 | [],N=>[N]
 | .ctx la::es,N=>S14.runH es (S14.ev N (.ctx la))
 | .bit b::es,N=>N::S14.runH es (S14.ev N (.bit b))
structure GoodC(C:List S14.C)(N:S14.N)(t:Nat):Prop where
 g:GoodN N t
 c:N.comps=C
theorem learnN_comps(N:S14.N)(b:Int):(S14.learnN N b).comps=N.comps:=by unfold S14.learnN;split<;>rfl
structure Shown(C:List S14.C)(D:Nat)(FF:FuncId)(AR:Array Value→Array Value)(Rel:List S14.N→(Nat→Prop)→World→Prop):Prop where
 lt:∀hist FP w,Rel hist FP w→∀k,FP k→k<w.heap.size
 keep:∀hist FP w w' (X:Nat→Prop),Rel hist FP w→KepX X w w'→(∀k,X k→D≤k∧¬FP k)→Rel hist FP w'
 call:∀hist FP (E:Nat→Prop) N t VS w,GoodC C N t→NetE E N VS w→Rel hist FP w→(∀k,FP k→E k)→
  Calls Tryz.prog FF (AR #[.agg VS.toArray]) w fun e w'=>∃FP',e = .returned (.bool true)∧Rel (hist ++ [N]) FP' w'∧KepX FP w w'∧∀k,FP' k→FP k∨w.heap.size≤k
theorem feed14_all{C:List S14.C}{D:Nat}{FF:FuncId}{caps:Array Value}{Rel:List S14.N→(Nat→Prop)→World→Prop}(hS:Shown C D FF (fun x=>x++caps) Rel)(hist0:List S14.N)(FP0:Nat→Prop)(N0:S14.N)(t0:Nat)(ht0:t0≤1000)(data:List Int)(hg0:GoodC C N0 t0)(hN1:N0.part=1)(VS:List Value)(a:Option Addr)(cap:Nat)(w:World)(hV:NetE FP0 N0 VS w)(hR0:Rel hist0 FP0 w)
 (hD:D≤w.heap.size) (hen:∀(args:Array Value) (W:World),(callFunc FF args).run Tryz.prog W = .ok (.enter FF args) W) (hd:∀x∈data,0≤x∧x<256) (hl:data.length≤24) (hrd:Rd w a (Bts data)) (hra:∀g o,a=some ⟨g,o,none⟩→¬FP0 g) :
 Calls Tryz.prog 30 #[.agg VS.toArray,.slice a data.length cap,.func (.func FF) #[] caps] w fun e w'=>
  ∃VS' N' FP',e = .returned (.tuple #[.agg VS'.toArray,.bool true])∧GoodC C N' (t0+8*data.length)∧N'.part=1∧NetE FP' N' VS' w'∧Rel (hist0++S14.runH (evs 0 data) N0) FP' w'∧KepX FP0 w w'∧∀k,FP' k→FP0 k∨w.heap.size≤k:=by
 obtain⟨H0,hH0⟩:∃H,hist0++S14.runH (evs 0 data) N0=H:=⟨_,rfl⟩;rw[hH0];obtain⟨W1,hW1⟩:∃W1,(w.alloc (.cells VS.toArray 26)).alloc (.cells zN 26)=W1:=⟨_,rfl⟩;have k1:Blk W1 w.heap.size VS 26:=by rw[←hW1];exact(Blk.new w _ _).alloc _
 have r1:Blk W1 (w.heap.size+1) [.slice none 0 0,.slice none 0 0,.slice none 0 0,.int .i64 0] 26:=by
  rw[←hW1];have h:=Blk.new (w.alloc (.cells VS.toArray 26)) [.slice none 0 0,.slice none 0 0,.slice none 0 0,.int .i64 0] 26;rwa[yA]at h
 have B1:Below w.heap.size w W1:=by rw[←hW1];exact((zF _ _).alloc (zE _) _).alloc (by simp) _
 have hlt0:=hS.lt _ _ _ hR0;have s1:=zD hg0;have s2:=zD hN1;have s3:=zD (hS.keep _ _ _ _ (fun _=>False) hR0 (KepX.below B1) (fun _ h=>h.elim));have s4:=zD (hV.grow (E':=(fun b=>FP0 b∨b=w.heap.size∨b=w.heap.size+1)) (KepX.below B1) (fun k hk h=>h.elim (fun h=>h) (fun h=>by omega)));have s5:=zD (KepX.below B1:KepX FP0 w W1);have s6:=zD (show∀k,FP0 k→FP0 k∨w.heap.size≤k from fun k h=>.inl h);have s7:=zD (show¬FP0 w.heap.size∧¬FP0 (w.heap.size+1)from⟨fun h=>by have:=hlt0 _ h;omega,fun h=>by have:=hlt0 _ h;omega⟩);have s8:=zD (show hist0++S14.runH (evs 0 (data.drop 0)) N0=H0 from hH0);have Hrd:=zD hrd;have Hra:=zD hra;have HS:=zD hS;unfold zN at hW1;clear hV hrd hR0 hg0 hN1 hlt0 hH0 B1 hS hra;obtain⟨n,hn⟩:∃n,data.length=n:=⟨_,rfl⟩;have Hn:=zD hn;rw[hn]at hl⊢;clear hn;go_enter Tryz.func30,Tryz.ntmps30;go_wp2_with (rw[hW1]);clear hW1;go_loopw [8,16] (fun v i wr=>∃(k la:Nat) (VK:List Value) (Nk:S14.N) (hist:List S14.N) (FP:Nat→Prop),k≤n∧i = .int .i64 (k:Int)∧v = .int .u8 (la:Int)∧la<256∧Hid (Nk.part=1)∧Hid (GoodC C Nk (t0+8*k))∧Hid (Rel hist FP wr)∧Hid (NetE (fun b=>FP b∨b=w.heap.size∨b=w.heap.size+1) Nk VK wr)∧Blk wr w.heap.size VK 26∧Blk wr (w.heap.size+1) [.slice none 0 0,.slice none 0 0,.slice none 0 0,.int .i64 0] 26∧Hid (KepX FP0 w wr)∧Hid (∀k,FP k→FP0 k∨w.heap.size≤k)∧Hid (¬FP w.heap.size∧¬FP (w.heap.size+1))∧Hid (hist++S14.runH (evs la (data.drop k)) Nk=H0)) (fun _ i _=>n-(intOf i).toNat)
 case atStart=>exact⟨0,0,VS,N0,hist0,FP0,by omega,rfl,rfl,by omega,s2,s1,s3,s4,k1,r1,s5,s6,s7,s8⟩
 case round=>
  clear s1 s2 s3 s4 s5 s6 s7 s8 k1 r1;obtain⟨k,la,VK,Nk,hist,FP,hk,rfl,rfl,hla,hp1,hG,hRl,hNE,kr,rr,hKX,hsub,hnot,hH⟩:=hrel;have hwr:=hKX.out.size;have hltF:=zD (HS.out.lt _ _ _ hRl.out);have zB:=rr.lt;by_cases hlt:k<n
  ·have hltz:(k:Int)<(n:Int):=by omega
   have hkl:k<data.length:=by rw[Hn.out];exact hlt
   obtain⟨g,o,rfl,hcs⟩:=(Hrd.out.kepX hKX.out Hra.out).at (i:=k) (by unfold Bts;rw[yX];exact hkl);obtain⟨x,hx,hx2,hxe⟩:∃x:Nat,wr.cell? ⟨g,o+k,none⟩=some (.int .u8 (x:Int))∧x<256∧data.drop k=(x:Int)::data.drop (k+1):=by
    have h1:=hcs k (by unfold Bts;rw[yX];exact hkl);have h2:=hd data[k] (zaS hkl);refine⟨data[k].toNat,?_,by omega,?_⟩
    ·rw[h1,Int.toNat_of_nonneg h2.1];simp[Bts]
    ·rw[Int.toNat_of_nonneg h2.1];exact List.drop_eq_getElem_cons hkl
   have hH2:=zD (show hist++S14.runH ((zmV x).drop 0++evs x (data.drop (k+1))) (S14.ev Nk (.ctx la))=H0 by
    have h:=hH.out;rw[hxe]at h;exact h)
   have hG2:=zD (show GoodC C (S14.ev Nk (.ctx la)) (t0+8*k+0)from⟨(hG.out.g.ctxs (zgJ la)).open_,hG.out.c⟩)
   have hP2:=zD (show PartAt 0 (S14.ev Nk (.ctx la)).part by
    show PartAt 0 Nk.part;rw[hp1.out];exact PartAt.zero)
   clear hcs hkl hxe hH;go_wp2_with fail;refine zaI 9 1 (.read 0 (.read 1 (.two (.one 2 (.two (.one 3 (.read 4 (.read 5 (.read 6 (.one 7 (.one 8 .done)))))) (.one 7 (.one 3 (.read 4 (.read 5 (.read 6 (.one 8 .done)))))))) (.one 7 (.one 2 (.one 3 (.read 4 (.read 5 (.read 6 (.one 8 .done)))))))))) _ _ o0P (fun K=>Below wr.heap.size wr K∧Blk K w.heap.size VK 26) (by kernel_rfl) (yI 9 _).symm (by kernel_rfl) (by kernel_rfl) (by kernel_rfl) (by kernel_rfl) (⟨(zF _ _).drew,kr⟩) (fun Y Q4 F4 hY hF=> ?_);simp only[Plan.map,ltc,ltz,ldc,ldz,zcW,zdQ]
   repeat
    apply zO (by rw[hY];rfl)
    ·intro w2 hS2;(try simp only[Keeps,Cells]at hS2);go_simp;with_reducible rfl
    simp only[zsM]
   have hVKl:=zD hNE.out.len;have fin:∀(gc:Nat) (V2:List Value) (b11:Nat) (wS:World),Below wr.heap.size wr wS→Blk wS b11 V2 26→NetE (fun b=>(FP b∨b=w.heap.size∨b=w.heap.size+1)∨b=b11) (S14.ev Nk (.ctx la)) V2 wS→wr.heap.size≤b11→F4 {tmps:=#[.agg VS.toArray,.slice (some ⟨g,o,none⟩) n cap,.func (.func FF) #[] caps,.pointer (some ⟨w.heap.size,0,none⟩),undef,undef,.pointer (some ⟨(w.heap.size+1),0,none⟩),u7,.int .u8 (la:Int),undef,.int .u8 (x:Int),.pointer (some ⟨b11,0,none⟩),u12,u13,.slice (some ⟨g,o,none⟩) n cap,.int .i64 (n:Int),.int .i64 (k:Int),.bool true,.pointer (some ⟨g,o+k,none⟩),.int .u8 (x:Int),.tuple #[.agg V2.toArray,.int .i64 0],.agg VK.toArray,.int .u8 (la:Int),.slice (some ⟨gc,0,none⟩) 16 16,.tuple #[.agg V2.toArray,.int .i64 0],.agg V2.toArray,.int .i64 0,u27,u28,u29,u30,u31,u32,u33,u34,u35,u36,u37,u38,u39,u40,u41,u42,u43,u44,u45,u46,u47,u48,u49,u50,u51,u52,u53,u54,undef,undef,undef,undef],defers:=[]} wS:=by
    intro gc V2 b11 wS BS ES NS hb11;refine hF _ _ (fun K hK=> ?_);clear hF hY;have HK:=zD hK;clear hK;go_wp2_with fail;refine OnlyK.mk (HK.out _ _ ?_);have V2l:=zD NS.len;have V2o:=zD NS.one;have kS:=kr.step BS;have rS:=rr.step BS;have RS:=HS.out.keep _ _ _ _ (fun _=>False) hRl.out (KepX.below BS) (fun _ h=>h.elim);have KS:=hKX.out.grow (KepX.below BS:KepX FP wr wS) (fun k hk h=>(hsub.out k h).elim (fun h=>h) (fun h=>by omega));clear kr rr hNE hG hRl hKX;go_wp2_with (first
     | (refine yE 26 (.tmp 11) (by rfl) (by rfl) b11 (by rfl) V2 26 ES _ Tryz.underlying26 rfl (info_N.trans (yN some V2l.out.symm)) ?_)
     | (refine yD 26 (.tmp 3) (.tmp 30) (by rfl) (by rfl) w.heap.size (by rfl) V2 (by rfl) _ 26 kS (info_N.trans (yN some V2l.out.symm)) (hVKl.out.trans V2l.out.symm) V2o.out ?_;intro s3 E3 g3 z3;clear z3))
    have q1:=zD (HS.out.keep _ _ _ _ (fun b=>b=w.heap.size) RS (KepX.row g3 (fun b e=>.inl (zJ e).symm)) (fun b e=>⟨by omega,by rw[e];exact hnot.out.1⟩));have q2:=zD ((NS.kep (KepX.row g3 (fun b e=>.inl (.inl (.inr (.inl (zJ e).symm)))))).mono (E':=(fun b=>FP b∨b=w.heap.size∨b=w.heap.size+1)) (fun k _ h=>.inl h));have r3:=rS.keptRow g3 (by intro e;have:=zJ e;omega);have q3:=zD (KS.rowB g3 (fun b e=>.inr (by have:=zJ e;omega)));clear NS kS rS BS ES V2l V2o g3 RS KS;go_loopw [13] (fun v wi=>∃(j:Nat) (VJ:List Value) (NJ:S14.N) (hj:List S14.N) (FJ:Nat→Prop),j≤8∧v = .int .i64 (7-(j:Int))∧Hid (PartAt j NJ.part)∧Hid (GoodC C NJ (t0+8*k+j))∧Hid (Rel hj FJ wi)∧Hid (NetE (fun b=>FJ b∨b=w.heap.size∨b=w.heap.size+1) NJ VJ wi)∧Blk wi w.heap.size VJ 26∧Blk wi (w.heap.size+1) [.slice none 0 0,.slice none 0 0,.slice none 0 0,.int .i64 0] 26∧Hid (KepX FP0 w wi)∧Hid (∀k,FJ k→FP0 k∨w.heap.size≤k)∧Hid (¬FJ w.heap.size∧¬FJ (w.heap.size+1))∧Hid (hj++S14.runH ((zmV x).drop j++evs x (data.drop (k+1))) NJ=H0)) (fun v _=>(intOf v+1).toNat)
    case atStart=>exact⟨0,V2,_,hist,FP,by omega,rfl,hP2,hG2,q1,q2,E3,r3,q3,hsub,hnot,hH2⟩
    case round=>
     clear q1 q2 q3 E3 r3 hsub hnot hH2 hG2 hP2 hltF hwr zB;obtain⟨j,VJ,NJ,hj,FJ,hj8,rfl,hpj,hGj,hRj,Nj,Ej,rj,hKj,hsj,hnj,hHj⟩:=hrel;have hwi:=hKj.out.size;have zBj:=rj.lt;by_cases hjl:j<8
     ·have hjz:(0:Int)≤7-(j:Int):=by omega
      have VJl:=zD Nj.out.len;go_wp2_with (first
       | (refine yE 26 (.tmp 3) (by rfl) (by rfl) w.heap.size (by rfl) VJ 26 Ej _ Tryz.underlying26 rfl (info_N.trans (yN some VJl.out.symm)) ?_))
      refine(HS.out.call hj FJ _ NJ _ VJ _ hGj.out Nj.out hRj.out (fun k h=>.inl h)).mono ?_;rintro e w5 ⟨F5,rfl,hR5,hk5,hs5⟩;have hl5:=hk5.size;have Ej:=Ej.kepX hk5 hnj.out.1;have rj:=rj.kepX hk5 hnj.out.2;have N5:=Nj.out.grow (E':=(fun b=>F5 b∨b=w.heap.size∨b=w.heap.size+1)) (hk5.mono (fun k _ h=>.inl h)) (fun k hk h=>h.elim (fun h=>(hs5 k h).elim .inl (fun h=>by omega)) .inr);have K5:=hKj.out.grow hk5 (fun k hk h=>(hsj.out k h).elim (fun h=>h) (fun h=>by omega));have S5:∀k,F5 k→FP0 k∨w.heap.size≤k:=fun k h=>(hs5 k h).elim (hsj.out k) (fun h=>.inr (by omega));have n5:¬F5 w.heap.size∧¬F5 (w.heap.size+1):=⟨fun h=>(hs5 _ h).elim hnj.out.1 (fun h=>by omega),fun h=>(hs5 _ h).elim hnj.out.2 (fun h=>by omega)⟩;have l5:=HS.out.lt _ _ _ hR5;have HR5:=zD hR5;have HN5:=zD N5;have HK5:=zD K5;have HS5:=zD S5;have Hn5:=zD n5;have Hl5:=zD l5;clear hR5 N5 K5 S5 n5 l5 hk5 hs5 Nj hRj hKj hsj hnj;go_wp2_with fail;refine zaI 11 1 (.read 1 (.read 2 (.read 3 (.read 4 (.read 5 (.one 0 (.one 6 (.read 7 (.read 8 (.read 9 (.one 10 .done))))))))))) _ _ o0P (fun _=>True) (by kernel_rfl) (yI 11 _).symm (by kernel_rfl) (by kernel_rfl) (by kernel_rfl) (by kernel_rfl) (yJ) (fun Y Q4 F4 hY hF=> ?_);simp only[Plan.map,ltc,ltz,ldc,ldz,zcW,zdQ]
      repeat
       apply zO (by rw[hY];rfl)
       ·intro w2 hS2;(try simp only[Keeps,Cells]at hS2);go_simp;with_reducible rfl
       simp only[zsM]
      refine yG (by rw[hY];rfl) (zbJ 26 (.tmp 3) (by rfl) w.heap.size (by rfl) VJ Ej.drew.cells _ Tryz.underlying26 rfl (info_N.trans (yN some VJl.out.symm))) yJ ?_;simp only[zsM]
      repeat
       apply zO (by rw[hY];rfl)
       ·intro w2 hS2;(try simp only[Keeps,Cells]at hS2);go_simp;with_reducible rfl
       simp only[zsM]
      obtain⟨bt,hbt⟩:∃bt,bits BinOp.and IntKind.u8 ((x:Int)/2^(7-j)) 1=bt:=⟨_,rfl⟩;have hb01:bt=0∨bt=1:=by rw[←hbt];exact and1_14 x hx2 j
      have hwb:IntKind.i64.wrap bt=bt:=by rcases hb01 with rfl|rfl<;>rfl
      have Hbt:=zD hbt;rw[hbt,hwb];apply zV (by rw[hY];rfl)
      ·go_simp;with_reducible exact⟨rfl,rfl⟩
      refine(learn_all hGj.out.g (by omega) hb01 VJ _ (HN5.out.step (zF _ _).drew)).mono ?_;rintro e w6 ⟨V6,rfl,N6,hb6⟩;have hb6w:Below w5.heap.size w5 w6:=(zF _ _).drew.trans hb6;have E6:=Ej.step hb6w;have r6:=rj.step hb6w
      have N6:=N6.mono (E':=(fun b=>F5 b∨b=w.heap.size∨b=w.heap.size+1)) (fun k _ h=>by
       show k<w5.heap.size;exact h.elim (Hl5.out k) (fun h=>by omega))
      have R6:=HS.out.keep _ _ _ _ (fun _=>False) HR5.out (KepX.below hb6w) (fun _ h=>h.elim);have K6:=HK5.out.grow (KepX.below hb6w:KepX F5 w5 w6) (fun k hk h=>(HS5.out k h).elim (fun h=>h) (fun h=>by omega));refine⟨_,rfl,yJ,?_⟩;simp only[zsM]
      repeat
       apply zO (by rw[hY];rfl)
       ·intro w2 hS2;(try simp only[Keeps,Cells]at hS2);go_simp;with_reducible rfl
       simp only[zsM]
      refine yP 26 (.tmp 3) (.tmp 48) (by rfl) (by rw[hY];rfl) w.heap.size (by rfl) V6 (by rfl) _ 26 E6 (info_N.trans (yN some N6.len.symm)) (VJl.out.trans N6.len.symm) N6.one ?_;intro s6 ES6 g6 z6;refine⟨yJ,?_⟩;simp only[zsM];have q1:=zD (HS.out.keep _ _ _ _ (fun b=>b=w.heap.size) R6 (KepX.row g6 (fun b e=>.inl (zJ e).symm)) (fun b e=>⟨by omega,by rw[e];exact Hn5.out.1⟩));have q2:=zD (N6.kep (KepX.row g6 (fun b e=>.inl (.inr (.inl (zJ e).symm)))));have rS6:=r6.keptRow g6 (by intro e;have:=zJ e;omega);have q3:=zD (K6.rowB g6 (fun b e=>.inr (by have:=zJ e;omega)));have q4:=zD (show GoodC C (S14.learnN NJ bt) (t0+8*k+(j+1))from⟨hGj.out.g.learnN (by omega) hb01,(learnN_comps _ _).trans hGj.out.c⟩)
      have q5:=zD (show PartAt (j+1) (S14.learnN NJ bt).part by
       have h:=hpj.out.next hjl hb01;unfold S14.learnN;split<;>exact h)
      have q6:=zD (show(hj ++ [NJ])++S14.runH ((zmV x).drop (j+1)++evs x (data.drop (k+1))) (S14.learnN NJ bt)=H0 by
       have h:=hHj.out;have hd8:(zmV x).drop j=Ev.bit bt::(zmV x).drop (j+1):=by
        rw[bitEvs_drop x hjl,show bitAt x j=bt from Hbt.out]
       rw[hd8]at h;rw[List.append_assoc];exact h)
      refine yO (hF _ _ (fun K2 hK2=> ?_));clear hF hY g6 z6 E6 r6 N6 hb6 hb6w HN5 Ej rj hGj hpj hbt R6 K6 hHj;have HK2:=zD hK2;clear hK2;go_wp2_with fail;refine OnlyK.mk (HK2.out _ _ ?_);go_wp2_with fail;go_roundw
      case rel=>exact⟨j+1,V6,_,_,F5,by omega,by simp;omega,q5,q4,q1,q2,ES6,rS6,q3,HS5,Hn5,q6⟩
      case measure=>simp[intOf];omega
     ·obtain rfl:j=8:=by omega
      have hp1':=zD hpj.out.one;have q6:=zD (show hj++S14.runH (evs x (data.drop (k+1))) NJ=H0 from hHj.out);have q4:=zD (show GoodC C NJ (t0+8*(k+1))from hGj.out);clear hHj hGj hpj;go_wp2_with fail;go_roundw
      case rel=>exact⟨k+1,x,VJ,NJ,hj,FJ,by omega,by simp,rfl,hx2,hp1',q4,hRj,Nj,Ej,rj,hKj,hsj,hnj,q6⟩
      case measure=>simp[intOf];omega
   have hbv0:Below wr.heap.size wr wr.drew:=(zF _ _).drew;obtain⟨v0,hv0⟩:∃v,wr.drew=v:=⟨_,rfl⟩;have kv0:Blk v0 w.heap.size VK 26:=by rw[←hv0];exact kr.drew
   rw[hv0]at hbv0⊢
   have hEsz:∀(W:World),Below wr.heap.size wr W→∀k,(fun b=>FP b∨b=w.heap.size∨b=w.heap.size+1) k→k<W.heap.size:=fun W hW k h=>by
    have:=hW.size;exact h.elim (fun h=>by have:=hltF.out k h;omega) (fun h=>by omega)
   refine zO (by rw[hY];rfl) (fun w2 hS2=>zbJ 26 (.tmp 3) (by rfl) w.heap.size (by rfl) VK hS2.2.cells _ Tryz.underlying26 rfl (info_N.trans (yN some hVKl.out.symm))) ?_;simp only[zsM]
   repeat
    apply zO (by rw[hY];rfl)
    ·intro w2 hS2;(try simp only[Keeps,Cells]at hS2);go_simp;with_reducible rfl
    simp only[zsM]
   refine yW ?_ ?_
   ·skip
    apply zV (by rw[hY];rfl)
    ·go_simp;with_reducible exact⟨rfl,rfl⟩
    refine(zmO la hla _).mono ?_;rintro e v1 ⟨gc,rfl,rx,hbv10⟩;have hbv1:=zA hbv0 hbv10;clear hbv10;refine⟨_,rfl,⟨hbv1,kr.step hbv1⟩,?_⟩;simp only[zsM]
    repeat
     apply zO (by rw[hY];rfl)
     ·intro w2 hS2;(try simp only[Keeps,Cells]at hS2);go_simp;with_reducible rfl
     simp only[zsM]
    refine yW ?_ ?_
    ·skip
     apply zV (by rw[hY];rfl)
     ·go_simp;with_reducible exact⟨rfl,rfl⟩
     refine(ctx_all hG.out.g hp1.out (zgJ la) (ctxL_lt hla) (hEsz _ hbv1) VK _ _ (hNE.out.step hbv1) rx).mono ?_;rintro e v2 ⟨V2,rfl,NS,hbv20⟩;have hbv2:=zA hbv1 hbv20;clear rx hbv20;refine⟨_,rfl,⟨hbv2,kr.step hbv2⟩,?_⟩;simp only[zsM]
     repeat
      apply zO (by rw[hY];rfl)
      ·intro w2 hS2;(try simp only[Keeps,Cells]at hS2);go_simp;with_reducible rfl
      simp only[zsM]
     have hbv30:Below v2.heap.size v2 (v2.alloc (.cells #[.slice none 0 0,.slice none 0 0,.slice none 0 0,.int .i64 0] 26)):=(zF _ _).alloc (zE _) _;have hbv3:=zA hbv2 hbv30;refine yG (by rw[hY];rfl) (by go_simp;first|with_reducible exact⟨rfl,rfl⟩|with_reducible rfl) ((show Below wr.heap.size wr (v2.alloc (.cells #[.slice none 0 0,.slice none 0 0,.slice none 0 0,.int .i64 0] 26))∧Blk (v2.alloc (.cells #[.slice none 0 0,.slice none 0 0,.slice none 0 0,.int .i64 0] 26)) w.heap.size VK 26 from⟨hbv3,kr.step hbv3⟩)) ?_;simp only[zsM];have kN:=Blk.new v2 [.slice none 0 0,.slice none 0 0,.slice none 0 0,.int .i64 0] 26;have zN:wr.heap.size≤v2.heap.size:=hbv2.size;obtain⟨b11,hb11⟩:∃x,v2.heap.size=x:=⟨_,rfl⟩;have NS:=NS.grow (E':=(fun b=>(FP b∨b=w.heap.size∨b=w.heap.size+1)∨b=b11)) (KepX.below hbv30) (fun k hk h=>h.elim (fun h=>h) (fun h=>by omega));clear hbv30;rw[hb11]at kN zN⊢;obtain⟨v3,hv3⟩:∃v,(v2.alloc (.cells #[.slice none 0 0,.slice none 0 0,.slice none 0 0,.int .i64 0] 26))=v:=⟨_,rfl⟩;rw[hv3]at hbv3 kN NS⊢
     repeat
      apply zO (by rw[hY];rfl)
      ·intro w2 hS2;(try simp only[Keeps,Cells]at hS2);go_simp;with_reducible rfl
      simp only[zsM]
     refine yP 26 (.tmp 11) (.tmp 25) (by rfl) (by rw[hY];rfl) b11 (by rfl) V2 (by rfl) _ 26 kN (info_N.trans (yN some NS.len.symm)) NS.len.symm NS.one ?_;intro wS ES gS sS;have hbS:Below wr.heap.size wr wS:=hbv3.trans (yC gS zN hbv3.size);refine⟨⟨hbS,kr.step hbS⟩,?_⟩;simp only[zsM];exact yO (fin _ _ _ wS hbS ES (NS.kep (KepX.row gS (fun b e=>.inl (.inr (zJ e).symm)))) zN)
    ·skip
     have hbv20:Below v1.heap.size v1 (v1.alloc (.cells #[.slice none 0 0,.slice none 0 0,.slice none 0 0,.int .i64 0] 26)):=(zF _ _).alloc (zE _) _;have hbv2:=zA hbv1 hbv20;refine yG (by rw[hY];rfl) (by go_simp;first|with_reducible exact⟨rfl,rfl⟩|with_reducible rfl) ((show Below wr.heap.size wr (v1.alloc (.cells #[.slice none 0 0,.slice none 0 0,.slice none 0 0,.int .i64 0] 26))∧Blk (v1.alloc (.cells #[.slice none 0 0,.slice none 0 0,.slice none 0 0,.int .i64 0] 26)) w.heap.size VK 26 from⟨hbv2,kr.step hbv2⟩)) ?_;simp only[zsM];have rx:=rx.step hbv20;have kN:=Blk.new v1 [.slice none 0 0,.slice none 0 0,.slice none 0 0,.int .i64 0] 26;have zN:wr.heap.size≤v1.heap.size:=hbv1.size;obtain⟨b11,hb11⟩:∃x,v1.heap.size=x:=⟨_,rfl⟩;clear hbv20;rw[hb11]at kN zN⊢;obtain⟨v2,hv2⟩:∃v,(v1.alloc (.cells #[.slice none 0 0,.slice none 0 0,.slice none 0 0,.int .i64 0] 26))=v:=⟨_,rfl⟩;rw[hv2]at hbv2 kN rx⊢
     repeat
      apply zO (by rw[hY];rfl)
      ·intro w2 hS2;(try simp only[Keeps,Cells]at hS2);go_simp;with_reducible rfl
      simp only[zsM]
     have NK:=hNE.out.grow (E':=(fun b=>(FP b∨b=w.heap.size∨b=w.heap.size+1)∨b=b11)) (KepX.below hbv2) (fun k hk h=>h.elim (fun h=>h) (fun h=>by omega));apply zV (by rw[hY];rfl)
     ·go_simp;with_reducible exact⟨rfl,rfl⟩
     refine(ctx_all hG.out.g hp1.out (zgJ la) (ctxL_lt hla) (fun k h=>h.elim (hEsz _ hbv2 k) (fun h=>by have:=kN.lt;omega)) VK _ _ NK rx).mono ?_;rintro e v3 ⟨V2,rfl,NS,hbv30⟩;have hbv3:=zA hbv2 hbv30;have kN:=kN.step hbv30;clear rx hbv30;refine⟨_,rfl,⟨hbv3,kr.step hbv3⟩,?_⟩;simp only[zsM]
     repeat
      apply zO (by rw[hY];rfl)
      ·intro w2 hS2;(try simp only[Keeps,Cells]at hS2);go_simp;with_reducible rfl
      simp only[zsM]
     refine yP 26 (.tmp 11) (.tmp 25) (by rfl) (by rw[hY];rfl) b11 (by rfl) V2 (by rfl) _ 26 kN (info_N.trans (yN some NS.len.symm)) NS.len.symm NS.one ?_;intro wS ES gS sS;have hbS:Below wr.heap.size wr wS:=hbv3.trans (yC gS zN hbv3.size);refine⟨⟨hbS,kr.step hbS⟩,?_⟩;simp only[zsM];exact yO (fin _ _ _ wS hbS ES (NS.kep (KepX.row gS (fun b e=>.inl (.inr (zJ e).symm)))) zN)
   ·skip
    have hbv10:Below v0.heap.size v0 (v0.alloc (.cells #[.slice none 0 0,.slice none 0 0,.slice none 0 0,.int .i64 0] 26)):=(zF _ _).alloc (zE _) _;have hbv1:=zA hbv0 hbv10;refine yG (by rw[hY];rfl) (by go_simp;first|with_reducible exact⟨rfl,rfl⟩|with_reducible rfl) ((show Below wr.heap.size wr (v0.alloc (.cells #[.slice none 0 0,.slice none 0 0,.slice none 0 0,.int .i64 0] 26))∧Blk (v0.alloc (.cells #[.slice none 0 0,.slice none 0 0,.slice none 0 0,.int .i64 0] 26)) w.heap.size VK 26 from⟨hbv1,kr.step hbv1⟩)) ?_;simp only[zsM];have kN:=Blk.new v0 [.slice none 0 0,.slice none 0 0,.slice none 0 0,.int .i64 0] 26;have zN:wr.heap.size≤v0.heap.size:=hbv0.size;obtain⟨b11,hb11⟩:∃x,v0.heap.size=x:=⟨_,rfl⟩;clear hbv10;rw[hb11]at kN zN⊢;obtain⟨v1,hv1⟩:∃v,(v0.alloc (.cells #[.slice none 0 0,.slice none 0 0,.slice none 0 0,.int .i64 0] 26))=v:=⟨_,rfl⟩;rw[hv1]at hbv1 kN⊢
    repeat
     apply zO (by rw[hY];rfl)
     ·intro w2 hS2;(try simp only[Keeps,Cells]at hS2);go_simp;with_reducible rfl
     simp only[zsM]
    apply zV (by rw[hY];rfl)
    ·go_simp;with_reducible exact⟨rfl,rfl⟩
    refine(zmO la hla _).mono ?_;rintro e v2 ⟨gc,rfl,rx,hbv20⟩;have hbv2:=zA hbv1 hbv20;have kN:=kN.step hbv20;clear hbv20;refine⟨_,rfl,⟨hbv2,kr.step hbv2⟩,?_⟩;simp only[zsM]
    repeat
     apply zO (by rw[hY];rfl)
     ·intro w2 hS2;(try simp only[Keeps,Cells]at hS2);go_simp;with_reducible rfl
     simp only[zsM]
    have NK:=hNE.out.grow (E':=(fun b=>(FP b∨b=w.heap.size∨b=w.heap.size+1)∨b=b11)) (KepX.below hbv2) (fun k hk h=>h.elim (fun h=>h) (fun h=>by omega));apply zV (by rw[hY];rfl)
    ·go_simp;with_reducible exact⟨rfl,rfl⟩
    refine(ctx_all hG.out.g hp1.out (zgJ la) (ctxL_lt hla) (fun k h=>h.elim (hEsz _ hbv2 k) (fun h=>by have:=kN.lt;omega)) VK _ _ NK rx).mono ?_;rintro e v3 ⟨V2,rfl,NS,hbv30⟩;have hbv3:=zA hbv2 hbv30;have kN:=kN.step hbv30;clear rx hbv30;refine⟨_,rfl,⟨hbv3,kr.step hbv3⟩,?_⟩;simp only[zsM]
    repeat
     apply zO (by rw[hY];rfl)
     ·intro w2 hS2;(try simp only[Keeps,Cells]at hS2);go_simp;with_reducible rfl
     simp only[zsM]
    refine yP 26 (.tmp 11) (.tmp 25) (by rfl) (by rw[hY];rfl) b11 (by rfl) V2 (by rfl) _ 26 kN (info_N.trans (yN some NS.len.symm)) NS.len.symm NS.one ?_;intro wS ES gS sS;have hbS:Below wr.heap.size wr wS:=hbv3.trans (yC gS zN hbv3.size);refine⟨⟨hbS,kr.step hbS⟩,?_⟩;simp only[zsM];exact yO (fin _ _ _ wS hbS ES (NS.kep (KepX.row gS (fun b e=>.inl (.inr (zJ e).symm)))) zN)
  ·obtain rfl:k=n:=by omega
   have hVKl:=zD hNE.out.len
   have q6:=zD (show hist ++ [Nk]=H0 by
    have h:=hH.out;rw[List.drop_of_length_le (by rw[Hn.out];exact zE _)]at h;exact h)
   clear hH;go_wp2_with fail;refine zaI 4 2 (.read 0 (.read 1 (.read 2 (.one 3 .done)))) _ _ o0P (fun K=>Blk K w.heap.size VK 26) (by kernel_rfl) (yI 4 _).symm (by kernel_rfl) (by kernel_rfl) (by kernel_rfl) (by kernel_rfl) (kr.drew) (fun Y Q4 F4 hY hF=> ?_);simp only[Plan.map,ltc,ltz,ldc,ldz,zcW,zdQ]
   repeat
    apply zO (by rw[hY];rfl)
    ·intro w2 hS2;(try simp only[Keeps,Cells]at hS2);go_simp;with_reducible rfl
    simp only[zsM]
   refine zO (by rw[hY];rfl) (fun w2 hS2=>zbJ 26 (.tmp 3) (by rfl) w.heap.size (by rfl) VK hS2.cells _ Tryz.underlying26 rfl (info_N.trans (yN some hVKl.out.symm))) ?_;simp only[zsM]
   repeat
    apply zO (by rw[hY];rfl)
    ·intro w2 hS2;(try simp only[Keeps,Cells]at hS2);go_simp;with_reducible rfl
    simp only[zsM]
   refine zO (by rw[hY];rfl) (fun w2 hS2=>zbJ 26 (.tmp 3) (by rfl) w.heap.size (by rfl) VK hS2.cells _ Tryz.underlying26 rfl (info_N.trans (yN some hVKl.out.symm))) ?_;simp only[zsM]
   repeat
    apply zO (by rw[hY];rfl)
    ·intro w2 hS2;(try simp only[Keeps,Cells]at hS2);go_simp;with_reducible rfl
    simp only[zsM]
   have hdb:Below wr.heap.size wr wr.drew:=(zF _ _).drew;apply zV (by rw[hY];rfl)
   ·go_simp;with_reducible exact⟨rfl,rfl⟩
   refine(HS.out.call hist FP _ Nk _ VK _ hG.out (hNE.out.step hdb) (HS.out.keep _ _ _ _ (fun _=>False) hRl.out (KepX.below hdb) (fun _ h=>h.elim)) (fun k h=>.inl h)).mono ?_;rintro e w5 ⟨F5,rfl,hR5,hk5',hs5'⟩;have hk5:KepX FP wr w5:=(KepX.below hdb).trans hk5';have hs5:∀k,F5 k→FP k∨wr.heap.size≤k:=hs5';have hl5:=hk5.size;have k5:=kr.kepX hk5 hnot.out.1;have r5:=rr.kepX hk5 hnot.out.2;have N5:=hNE.out.grow (E':=(fun b=>F5 b∨b=w.heap.size∨b=w.heap.size+1)) (hk5.mono (fun k _ h=>.inl h)) (fun k hk h=>h.elim (fun h=>(hs5 k h).elim .inl (fun h=>by omega)) .inr);have K5:=hKX.out.grow hk5 (fun k hk h=>(hsub.out k h).elim (fun h=>h) (fun h=>by omega));have S5:=zD (show∀k,F5 k→FP0 k∨w.heap.size≤k from fun k h=>(hs5 k h).elim (hsub.out k) (fun h=>.inr (by omega)));have n5:¬F5 (w.heap.size+1):=fun h=>(hs5 _ h).elim hnot.out.2 (fun h=>by omega);have VKo:=zD hNE.out.one;have HR5:=zD hR5;have HN5:=zD N5;have HK5:=zD K5;have Hn5:=zD n5;clear hk5 hs5 hk5' hs5' hR5 N5 K5 n5;refine⟨_,rfl,k5,?_⟩;simp only[zsM];refine yO (hF _ _ (fun K2 hK2=> ?_));clear hF hY kr rr hNE hRl hKX hsub hnot;have HK2:=zD hK2;clear hK2;refine yD 26 (.tmp 6) (.tmp 55) (by rfl) (by rfl) (w.heap.size+1) (by rfl) VK (by rfl) _ 26 r5 (info_N.trans (yN some hVKl.out.symm)) hVKl.out.symm VKo.out ?_;intro wR ER gR sR;go_wp2_with fail;refine OnlyK.mk (HK2.out _ _ ?_);go_wp2_with fail;have hL:=run_loadVar_mid wR _ 0 _ _ _ ER.cells Tryz.underlying26 rfl (info_N.trans (yN some hVKl.out.symm));refine bodyPost_ret (v:=.tuple #[.agg VK.toArray,.bool true]) ?_ rfl ?_
   ·exact zaL (show Tryz.f30.results = #[.cell 6 26,.tmp 7]from rfl) (p:=⟨w.heap.size+1,0,none⟩) rfl rfl hL
   ·exact⟨VK,Nk,F5,rfl,hG.out,hp1.out,(HN5.out.kep (KepX.row gR (fun b e=>.inl (.inr (.inr (zJ e).symm))))).mono (fun k _ h=>.inl h),q6.out▸HS.out.keep _ _ _ _ (fun b=>b=w.heap.size+1) HR5.out (KepX.row gR (fun b e=>.inl (zJ e).symm)) (fun b e=>⟨by omega,by rw[e];exact Hn5.out⟩),HK5.out.rowB gR (fun b e=>.inr (by have:=zJ e;omega)),S5.out⟩
theorem zrK(x:Int)(w:World):Calls Tryz.prog 33 #[.int .i64 x] w fun e w'=>e = .returned (.bool (decide (x < -3071)||decide (3071<x)))∧Below w.heap.size w w':=by
 by_cases h1:x < -3071
 ·rw[zT h1,Bool.true_or];go_enter Tryz.func33,Tryz.ntmps33;go_wp2;go_returns;exact⟨rfl,zF _ _⟩
 ·rw[yF h1,Bool.false_or];obtain⟨d,hd⟩:∃d,decide (3071<x)=d:=⟨_,rfl⟩;rw[hd];go_enter Tryz.func33,Tryz.ntmps33;go_wp2;go_returns;exact⟨rfl,zF _ _⟩
theorem wpList_loadG{P:Program}{w:World}{ops:Array Oper}{rest:List Oper}{o:Oper}{a:Act}{Q:Exit→Act→World→Prop}(T:TypeId)(x:Operand)(hw:Region.wanted o (yielded ops a.tmps)=true)(ho:o.op = .load T x)
 (b:Nat) (hx:a.eval x = .pointer (some ⟨b,0,none⟩)) (cs:List Value) (t:TypeId) (hB:Blk w b cs t) (d:TypeDesc) (hu:P.underlying T=some d) (hd:d.isRow=true) (hi:(P.info? T).map (·.size)=some cs.length)
 (h:wpList P ops Q rest (a.put o.dst (.agg cs.toArray)) w):wpList P ops Q (o::rest) a w:=by
 simp only[wpList,hw,if_true];exact .inl (wp_load_mid T x ho b 0 hx cs d hB.cells hu hd hi h)
def RelR(bl:Nat)(a:Option Addr)(n cap:Nat)(_:List S14.N)(FP:Nat→Prop)(w:World):Prop:=(∀k,¬FP k)∧Blk w bl [.slice a n cap] 22
theorem zpU(l:List S14.C)(bl:Nat)(a:Option Addr)(cap:Nat)(E:Nat→Prop)(N:S14.N)(t:Nat)(VS:List Value)(w:World)(hg:GoodC l N t)(hV:NetE E N VS w)(hb:Blk w bl [.slice a l.length cap] 22) :
 Calls Tryz.prog 31 #[.agg VS.toArray,.pointer (some ⟨bl,0,none⟩)] w fun e w'=>e = .returned (.bool true)∧Below w.heap.size w w':=by
 have HO:=zD fun(W:World) (hW:Below w.heap.size w W)=>outs_all hg.g VS W (hV.step hW);have HP:=zD fun(W:World) (hW:Below w.heap.size w W)=>pred_all hg.g VS W (hV.step hW);have HC:=zD fun(W:World) (hW:Below w.heap.size w W)=>check_all hg.g VS W (hV.step hW);have hbd:=outs_bound hg.g hV;have hVl:=zD hV.len;have hVo:=zD hV.one;rw[hg.c]at HO HP hbd;obtain⟨os,hos⟩:∃x,S14.outs (S14.outA N) l.length=x:=⟨_,rfl⟩;have hol:os.length=l.length:=by rw[←hos,S14.outs_length]
 rw[hos]at HO HP hbd;obtain⟨q,hq⟩:∃x,S06.squash (os.getD (l.length-1) 0)=x:=⟨_,rfl⟩;have hqb:1≤q∧q≤4095:=by rw[←hq];exact S06.squash_bounds _
 rw[hq]at HP;have hany:os.any (fun x=>decide (x < -3071)||decide (3071<x))=false:=by
  rw[List.any_eq_false];intro x hx;have:=hbd x hx;simp;omega
 have hl40:=(S14.check_zero (hg.c▸hg.g.check)).2.1;have HCF:=zD fun(W:World) (a:Option Addr) (cap:Nat) (hr:Rd W a (zaC os))=>zbX 33 (enters_of Tryz.func33 (by kernel_rfl) rfl) (fun x=>decide (x < -3071)||decide (3071<x)) zrK os a cap W (by omega) hr;rw[hany,hol]at HCF;have q1:decide (q<1)=false:=yF (by omega);have q2:decide (4095<q)=false:=yF (by omega);obtain⟨n,hn⟩:∃n,l.length=n:=⟨_,rfl⟩;rw[hn]at HO HCF hb;clear hV hg hbd hq hqb hany hos hol hn hl40;obtain⟨b1,eb1⟩:∃b,w.heap.size=b:=⟨_,rfl⟩;obtain⟨a1,ea1⟩:∃W,w.alloc (.cells VS.toArray 26)=W:=⟨_,rfl⟩;have F1:Blk a1 b1 VS 26:=by rw[←ea1,←eb1];exact Blk.new w _ _
 have ba1:Below w.heap.size w a1:=by rw[←ea1];exact(zF _ _).alloc (zE _) _
 have hb1:=hb.step ba1;go_enter Tryz.func31,Tryz.ntmps31;go_wp2_with (first
  | (rw[ea1,eb1])
  | (rw[ea1])
  | (refine yE 26 (.tmp 2) (by rfl) (by rfl) b1 (by rfl) VS 26 F1 _ Tryz.underlying26 rfl (info_N.trans (yN some hVl.out.symm)) ?_))
 refine(HO.out _ ba1).mono ?_;rintro e w2 ⟨ao,co,rfl,rdo,_,_,hb2⟩;have B2:=zA ba1 hb2;have F2:=F1.step hb2;have hb2':=hb1.step hb2;clear F1 hb1 hb2 ea1 eb1 ba1;go_wp2_with (first
  | (refine yE 26 (.tmp 2) (by rfl) (by rfl) b1 (by rfl) VS 26 F2 _ Tryz.underlying26 rfl (info_N.trans (yN some hVl.out.symm)) ?_))
 refine(HP.out _ B2).mono ?_;rintro e w3 ⟨rfl,hb3⟩;have B3:=zA B2 hb3;have F3:=F2.step hb3;have c3:=(hb2'.step hb3).cell 0;simp only[lgz]at c3;have rdo3:=rdo.step hb3;clear F2 hb2' hb3 rdo B2;go_wp2_with (first
  | (refine wpList_loadG 26 (.tmp 2) (by rfl) (by rfl) b1 (by rfl) VS 26 F3 _ Tryz.underlying26 rfl (info_N.trans (yN some hVl.out.symm)) ?_))
 refine(HC.out _ B3).mono ?_;rintro e w4 ⟨rfl,hb4⟩;have B4:=zA B3 hb4;have rdo4:=rdo3.step hb4;clear F3 c3 hb4 rdo3 B3;go_wp2_with fail;refine(HCF.out _ ao co rdo4).mono ?_;rintro e w5 ⟨rfl,hb5⟩;have B5:=zA B4 hb5;go_wp2;go_returns;exact⟨rfl,B5⟩
theorem shownR(l:List S14.C)(bl D:Nat)(hD:bl<D)(a:Option Addr)(cap:Nat):Shown l D 31 (fun x=>x ++ #[.pointer (some ⟨bl,0,none⟩)]) (RelR bl a l.length cap) where
 lt:=fun _ _ _ h k hk=>absurd hk (h.1 k)
 keep:=fun _ _ _ _ _ h hk hx=>⟨h.1,h.2.kepX hk (fun hb=>by have:=(hx _ hb).1;omega)⟩
 call:=fun hist FP E N t VS w hg hV hR _=>(zpU l bl a cap E N t VS w hg hV hR.2).mono fun e w' h=>⟨FP,h.1,⟨hR.1,hR.2.step h.2⟩,KepX.below h.2,fun k hk=>.inl hk⟩
end Go.Proofs.YtieeogndnhighaaGreat
