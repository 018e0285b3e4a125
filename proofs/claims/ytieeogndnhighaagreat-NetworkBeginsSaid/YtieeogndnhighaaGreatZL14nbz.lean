/- A part of the proof of L14n. No condition. -/
import Derived.Test.YtieeogndnhighaaGreatZL14nbp
import Derived.Test.YtieeogndnhighaaGreatZL14nbw
set_option linter.all false
set_option maxRecDepth 100000
set_option maxHeartbeats 1000000
namespace Go.Proofs.YtieeogndnhighaaGreat
open Go.RowKit
theorem PIs.ofH{l:List (Int×Int)}{a aT:Option Addr}{c cT:Nat}{B:Int}{XX:List Int}{w:World}(hr:Rd w a (Cts l))(ht:Tab XX aT cT w):PIs {S14.P0 with ctrs:=l,sb:=B,sd:=XX} {zbC with a1:=a,c1:=c,a2:=aT,c2:=cT} w:=
 ⟨hr,ht,(PIs.zero w).mch,(PIs.zero w).mix,(PIs.zero w).apm⟩
def S14.freshH(bits:Int):S14.P:={S14.P0 with ctrs:=List.replicate 215 (32768,0),sb:=S10.newB bits,sd:=S10.newX bits}
theorem znR(c:S14.C)(w:World) :
 Calls Tryz.prog 213 #[CV c] w fun e w'=>∃y,e = .returned (PV (S14.freshH c.bits) y)∧PRob 0 w.heap.size (S14.freshH c.bits) y w'∧Below w.heap.size w w':=by
 unfold S14.freshH;have HN:=zD fun W=>new10_any c.bits W;have Hok:=zD (OK8.newX c.bits);have HC:=zD fun W=>zhW W;have HT:=zD fun W=>zmP 215 (by omega) (by omega) W;obtain⟨XX,hXX⟩:∃x,S10.newX c.bits=x:=⟨_,rfl⟩;obtain⟨B,hB⟩:∃x,S10.newB c.bits=x:=⟨_,rfl⟩;obtain⟨E,hE⟩:∃x,S10.newE c.bits=x:=⟨_,rfl⟩;obtain⟨ws,hws⟩:∃l,List.replicate 215 ((32768:Int),(0:Int))=l:=⟨_,rfl⟩;have hwl:ws.length=215:=by rw[←hws,yR]
 rw[hXX,hB,hE]at HN;rw[hXX]at Hok;rw[hws]at HT;rw[hXX,hB,hws];obtain⟨W1,hW1⟩:∃W1,(w.alloc (.cells (zT c).toArray 117)).alloc (.cells zP 83)=W1:=⟨_,rfl⟩;have k1:Blk W1 w.heap.size (zT c) 117:=by rw[←hW1];exact(Blk.new w _ _).alloc _
 have k2:Blk W1 (w.heap.size+1) (yG S14.P0 zbC) 83:=by
  rw[←hW1];have h:=zeE (w.alloc (.cells (zT c).toArray 117));rwa[yA]at h
 have B1:Below w.heap.size w W1:=by rw[←hW1];exact((zG _ _).alloc (zE _) _).alloc (by simp) _
 have hW1s:W1.heap.size=w.heap.size+2:=by rw[←hW1];simp
 obtain⟨kind,bits,limit,rate,first,second⟩:=c;unfold CV;unfold zT at *;simp only at HN hW1 k1⊢;have x1:=k1.cell 1;simp only[zrD]at x1;have Hwl:=zD hwl;have HW1s:=zD hW1s;clear hXX hB hE hws hwl hW1s k1;go_enter Tryz.func213,Tryz.ntmps213;go_wp2_with (first
  | (refine yU 83 zP zbS (by rfl) (by rfl) ?_;rw[hW1])
  | fail)
 refine(HN.out _).mono ?_;rintro e w3 ⟨V,rfl,TOv,hb3⟩;have B3:=zA B1 hb3;have k2:=k2.step hb3;obtain⟨aT,cT,rfl,hT,hF8⟩:=TOv.open Hok.out;unfold zdY;obtain⟨W4,hW4⟩:∃W,w3.alloc (.cells #[.int .i64 0,.slice none 0 0] 75)=W:=⟨_,rfl⟩;obtain⟨b4,hb4⟩:∃b,w3.heap.size=b:=⟨_,rfl⟩;have kA:Blk W4 b4 [.int .i64 0,.slice none 0 0] 75:=by rw[←hW4,←hb4];exact Blk.new w3 _ _
 have ba4:Below w3.heap.size w3 W4:=by rw[←hW4];exact(zG _ _).alloc (zE _) _
 have hT4:=hT.step ba4
 have hTb:∀g o,XX≠ []→aT=some ⟨g,o,none⟩→g<b4:=fun g o hx e=>by
  obtain⟨g',o',e',hr⟩:=hT.rd (fun h=>hx (by cases XX with
   | nil=>rfl
   | cons _ _=>cases h))
  rw[e]at e';cases e';have hv:∃v,(Bts XX)[0]? = some v:=by cases XX with
   | nil=>exact absurd rfl hx
   | cons x r=>exact⟨_,rfl⟩
  obtain⟨v,hv⟩:=hv;rw[←hb4];exact zJ (hr 0 v hv)
 have k2:=k2.step ba4;have B4:=zA B3 ba4;have zb:w.heap.size+1<b4:=by have:=hb3.size;have:=HW1s.out;omega
 have HT4:=zD hT4;have HF8:=zD (hF8.mono (by have:=HW1s.out;omega):Fr aT (w.heap.size+2));have HTb:=zD hTb;clear TOv hT hF8 hb3 B3 ba4 x1 hT4 hTb;go_wp2_with (first
  | (rw[hW4,hb4])
  | (rw[hW4])
  | (refine yE 75 (.tmp 3) (.tmp 10) (by rfl) (by rfl) b4 (by rfl) [.int .i64 B,.slice aT XX.length cT] (by rfl) _ 75 kA info_Sl14 rfl (by simp[Value.oneCell']) ?_;intro s5 E5 g5 z5;clear z5))
 have k25:=k2.keptRow g5 (by intro e;have:=zO e;omega)
 have hT5:Tab XX aT cT s5:=⟨HT4.out.ok,HT4.out.cap,by
  by_cases hx:XX = []
  ·subst hx;exact fun h=>absurd rfl h
  ·exact HT4.out.rd.keptRow g5 (fun g o e=>by have:=HTb.out g o hx e;omega)⟩
 have B5:=B4.trans (yB g5 (by omega) B4.size);have HT5:=zD hT5;have hCS:Cells s5 [(⟨b4,0,none⟩,.int .i64 B),(⟨b4,1,none⟩,.slice aT XX.length cT)]:=⟨E5.cell 0,E5.cell 1,yJ⟩;clear hT5 HT4 B4 k2 g5 kA;refine zrE 4 1 [(U,[zrA,zrA,U]),(zrA,[U]),(zrA,[zrA,U]),(U,[zrA,zrA,zrA,U])] (fun K=>Below s5.heap.size s5 K∧Cells K [(⟨b4,0,none⟩,.int .i64 B),(⟨b4,1,none⟩,.slice aT XX.length cT)]) (by kernel_rfl) (⟨(zG _ _).drew,hCS⟩) (fun Y Q4 F4 hY hF=> ?_);simp only[zrC]
 repeat
  apply zF (by rw[hY];rfl)
  ·intro w2 hS2;(try simp only[Keeps,Cells]at hS2);go_simp;with_reducible rfl
  simp only[zrB]
 have hbv0:Below s5.heap.size s5 s5.drew:=(zG _ _).drew;apply zS (by rw[hY];rfl)
 ·go_simp;with_reducible exact⟨rfl,rfl⟩
 refine(HC.out _).mono ?_;rintro e v1 ⟨rfl,hbv10⟩;have hbv1:=zA hbv0 hbv10;refine⟨_,rfl,⟨hbv1,Cells.step hbv1 hCS⟩,?_⟩;simp only[zrB];apply zS (by rw[hY];rfl)
 ·go_simp;with_reducible exact⟨rfl,rfl⟩
 refine(HT.out _).mono ?_;rintro e v2 ⟨a,cap,rfl,hfar,hrd,hbv20⟩;have hbv2:=zA hbv1 hbv20;refine⟨_,rfl,⟨hbv2,Cells.step hbv2 hCS⟩,?_⟩;simp only[zrB]
 repeat
  apply zF (by rw[hY];rfl)
  ·intro w2 hS2;(try simp only[Keeps,Cells]at hS2);go_simp;with_reducible rfl
  simp only[zrB]
 refine zZ (hF.out _ _ (fun K hK=> ?_));clear hF hY;have HK:=zD hK;clear hK;have k28:=k25.step hbv2;have BS:=zA B5 hbv2;have hfar2:∀g o,a=some ⟨g,o,none⟩→w.heap.size+2≤g:=fun g o e=>by have:=hfar g o e;have:=hbv1.size;have:=B5.size;have:=E5.lt;omega
 have Hrd:=zD hrd;have Hfar:=zD hfar2;have HT8:=zD (HT5.out.step hbv2);have hone:∀v∈yG {S14.P0 with ctrs:=ws,sb:=B,sd:=XX} {zbC with a1:=a,c1:=cap,a2:=aT,c2:=cT},v.oneCell'=true:=zaE _ _;have hPV:yG {S14.P0 with ctrs:=ws,sb:=B,sd:=XX} {zbC with a1:=a,c1:=cap,a2:=aT,c2:=cT} = [.slice a 215 cap,.int .i64 B,.slice aT XX.length cT,.int .i64 0,.int .i64 0,.int .i64 0,.slice none 0 0,.slice none 0 0,.int .i64 0,.int .i64 0,.int .i64 0,.int .i64 0,.slice none 0 0,.int .i64 0,.slice none 0 0,.slice none 0 0]:=by
  unfold yG;simp only[Hwl.out];rfl
 rw[hPV]at hone;clear hrd hfar hfar2 hbv1 hbv2 hbv10 hbv20 hbv0 hCS;simp only[ldc,ldz];refine(yE 83 (.tmp 2) (.tmp 15) (by rfl) (by rfl) (w.heap.size+1) (by rfl) [.slice a 215 cap,.int .i64 B,.slice aT XX.length cT,.int .i64 0,.int .i64 0,.int .i64 0,.slice none 0 0,.slice none 0 0,.int .i64 0,.int .i64 0,.int .i64 0,.int .i64 0,.slice none 0 0,.int .i64 0,.slice none 0 0,.slice none 0 0] (by rfl) _ 83 k28 (info_P.trans rfl) rfl hone ?_);intro wL EL gL sL;go_wp2_with fail;refine OnlyK.mk (HK.out _ _ ?_);go_wp2_with fail;have hL:=run_loadVar_mid wL _ 0 _ _ _ EL.cells Tryz.underlying83 rfl (info_P.trans rfl);refine bodyPost_ret (v:=.agg #[.slice a 215 cap,.int .i64 B,.slice aT XX.length cT,.int .i64 0,.int .i64 0,.int .i64 0,.slice none 0 0,.slice none 0 0,.int .i64 0,.int .i64 0,.int .i64 0,.int .i64 0,.slice none 0 0,.int .i64 0,.slice none 0 0,.slice none 0 0]) ?_ rfl ?_
 ·exact zaB (show Tryz.f213.results = #[.cell 2 83]from rfl) (p:=⟨w.heap.size+1,0,none⟩) rfl hL
 ·refine⟨{zbC with a1:=a,c1:=cap,a2:=aT,c2:=cT},?_,fun w' hk=> ?_,BS.trans (yB gL (by omega) BS.size)⟩
  ·unfold PV;rw[hPV]
  ·have hX:KepX (fun k=>k<w.heap.size+2) _ w':=(KepX.row gL (fun b e=>.inl (by show b<_;have:=zO e;omega))).trans (hk.toX14.mono0 (by omega));exact PIs.ofH (Hrd.out.kepX hX (fun g o e=>by have:=Hfar.out g o e;show¬g<_;omega)) (HT8.out.kepX hX (fun g o e=>by have:=HF8.out g o e;show¬g<_;omega))
def S14.freshA(c:S14.C):S14.P:=
 if c.kind=1 then S14.fresh1 (2^c.bits.toNat)else if c.kind=2 then S14.freshH c.bits
 else if c.kind=3 then {S14.P0 with m:=S12.newM c.bits c.limit}
 else if c.kind=5 then {S14.P0 with mi:=c.second-c.first+1,mw:=List.replicate (2^c.bits.toNat) (List.replicate (c.second-c.first+1).toNat (65536/(c.second-c.first+1)))}
 else if c.kind=6 then {S14.P0 with ac:=zcT S11.first (2^c.bits.toNat)}else S14.P0
theorem zfH{c:S14.C}{p:S14.P}{pt:Int}(h:c.kind=0∨c.kind=4):S14.right c p pt=true↔S14.bare p=true:=by
 unfold S14.right;rcases h with h|h
 ·rw[zU h]
 ·rw[zK (by omega),zK (by omega),zK (by omega),zK (by omega),zU h]
theorem zlE{c:S14.C}{p:S14.P}{pt:Int}(h:c.kind=1):S14.right c p pt=true↔S14.bare {p with ctrs:=[]}=true∧S14.okCtrs p.ctrs (2^c.bits.toNat) c.limit=true:=by
 unfold S14.right;rw[zK (by omega),zU h,yF]
theorem zgU{c:S14.C}{p:S14.P}{pt:Int}(h:c.kind=2):S14.right c p pt=true↔(((S14.okCtrs p.ctrs 215 c.limit=true∧p.sb=c.bits)∧S10.check p.sb p.sd=0)∧(0≤p.slot∧p.slot≤2^c.bits.toNat-1))∧S14.bare {p with ctrs:=[],sb:=0,sd:=[],slot:=0}=true:=by
 unfold S14.right;rw[zK (by omega),zK (by omega),zU h];simp only[yF,yK,beq_iff_eq,S14.has_iff]
theorem zmU{c:S14.C}{p:S14.P}{pt:Int}(h:c.kind=3):S14.right c p pt=true↔(((S14.bare {p with m:=S14.zM}=true∧p.m.bits=c.bits)∧p.m.least=c.limit)∧p.m.part=pt)∧S12.check p.m=0:=by
 unfold S14.right;rw[zK (by omega),zK (by omega),zK (by omega),zU h];simp only[yF,yK,beq_iff_eq]
theorem right_mix{c:S14.C}{p:S14.P}{pt:Int}(h:c.kind=5):S14.right c p pt=true↔((S14.bare {p with mi:=0,mw:=[]}=true∧p.mi=c.second-c.first+1)∧(p.mw.length:Int)=2^c.bits.toNat)∧S13.check 16 p.mi p.mw=0:=by
 unfold S14.right;rw[zK (by omega),zK (by omega),zK (by omega),zK (by omega),zK (by omega),zU h];simp only[yF,yK,beq_iff_eq]
theorem zlD{c:S14.C}{p:S14.P}{pt:Int}(h:c.kind=6):S14.right c p pt=true↔(S14.bare {p with ac:=[]}=true∧(p.ac.length:Int)=33*2^c.bits.toNat)∧S11.check p.ac=0:=by
 unfold S14.right;rw[zK (by omega),zK (by omega),zK (by omega),zK (by omega),zK (by omega),zK (by omega),zU h];simp only[yF,yK]
theorem okCtrs_iff{l:List (Int×Int)}{n:Nat}{limit:Int}:S14.okCtrs l n limit=true↔l.length=n∧∀c∈l,S08.check c.1 c.2 limit=0:=by
 unfold S14.okCtrs;simp only[yF,yK,Bool.not_eq_true',List.any_eq_false,Decidable.not_not]
theorem check_good{bits:Int}{xs:List Int}(h:S10.check bits xs=0)(hok:OK8 xs):∃n:Nat,bits=n∧Good n xs:=by
 obtain⟨n,rfl,hn,hl,hb⟩:=S10.correct h;refine⟨n,rfl,hn,hl,hok,fun j hj hz=> ?_⟩;rw[S10.bad_eq hl]at hb;unfold S10.badP at hb;rw[List.any_eq_false]at hb;have h2:=hb j (List.mem_range.2 (by omega));unfold S10.bad2 at h2;rw[zQ hz,zbE,yK]at h2;omega
structure GoodP(t:Nat)(c:S14.C)(p:S14.P)(pt:Int):Prop where
 right:S14.right c p pt=true
 tab:OK8 p.sd
 byt:S12.Byt p.m.bytes
 few:p.m.bytes.length≤t
structure GoodN(N:S14.N)(t:Nat):Prop where
 check:S14.check N.comps=0
 len:N.parts.length=N.comps.length
 xl:N.ctxs.length=16
 pt:1≤N.part∧N.part≤255
 ps:∀(k:Nat) (c:S14.C) (p:S14.P),N.comps[k]? = some c→N.parts[k]? = some p→GoodP t c p N.part
theorem check11_of{l:List Int}(h1:l.length%33=0)(h2:33≤l.length)(h3:l.length≤2162688)(h4:∀x∈l,0≤x∧x≤65535):S11.check l=0:=by
 unfold S11.check;rw[zK (by omega),zK];rw[Bool.not_eq_true,List.any_eq_false];intro x hx;have:=h4 x hx;unfold S11.bad;simp;omega
theorem GoodP.open_{t:Nat}{N:S14.N}{k:Nat}{c:S14.C}{p:S14.P}(h:GoodP t c p N.part)(hc:N.comps[k]? = some c)(hbits:0≤c.bits∧c.bits≤16):GoodP t c (S14.openP N k p) N.part:=by
 unfold S14.openP;rw[hc];by_cases hk:c.kind=2
 ·rw[zU (by rw[Option.map_some,hk])];obtain⟨⟨⟨⟨h1,h2⟩,h3⟩,h4⟩,h5⟩:=(zgU hk).1 h.right;obtain⟨n,hn,hG⟩:=check_good h3 h.tab;have hcb:c.bits.toNat=n:=by omega
  have hh:=S14.hash_lt (N.ctxs.getD k 0) N.part.toNat;have hX:=hG.openX _ hh;have hL:=hG.openN_lt (S14.hash (N.ctxs.getD k 0) N.part.toNat);have hB:=hG.openB;rw[←hn]at hX hL hB;have h2n:((2^n:Nat):Int)=2^n:=by simp
  unfold S14.open1;refine⟨(zgU hk).2 ⟨⟨⟨⟨h1,?_⟩,?_⟩,?_⟩,h5⟩,hX.ok,h.byt,h.few⟩
  ·show S10.openB _ _=_;rw[hB];exact h2
  ·show S10.check (S10.openB _ _) _=0;rw[hB,hn];rw[hn]at hX;exact hX.check
  ·show 0≤((S10.openN _ _ _:Nat):Int)∧((S10.openN _ _ _:Nat):Int)≤_;rw[hcb];omega
 ·rw[zK (by rw[Option.map_some];exact fun e=>hk (zO e))];exact h
theorem openK_get{N:S14.N}:∀(n j:Nat),(S14.openK N n)[j]? = if j<n then(N.parts[j]?).map (S14.openP N j)else N.parts[j]?
 | 0,j=>by rw[zK (by omega)];rfl
 | n+1,j=>by
   have ih:=openK_get (N:=N) n;rw[S14.openK];have hn:=ih n;rw[zK (by omega)]at hn;split
   ·rename_i p hp
    rw[List.getElem?_set];have hl:=(List.getElem?_eq_some_iff.1 hp).1;by_cases hj:n=j
    ·subst hj;rw[zU rfl,zU hl,zU (by omega),←hn,hp];rfl
    ·rw[zK hj,ih j];by_cases h2:j<n
     ·rw[zU h2,zU (by omega)]
     ·rw[zK h2,zK (by omega)]
   ·rename_i hp
    rw[ih j];by_cases h2:j<n
    ·rw[zU h2,zU (by omega)]
    ·by_cases hj:j=n
     ·subst hj;rw[zK h2,zU (by omega),←hn,hp];rfl
     ·rw[zK h2,zK (by omega)]
theorem GoodN.open_{N:S14.N}{t:Nat}(h:GoodN N t):GoodN (S14.opened N) t where
 check:=h.check
 len:=(S14.openK_length N _).trans h.len
 xl:=h.xl
 pt:=h.pt
 ps:=fun k c p hc hp=>by
  have hp:(S14.openK N N.comps.length)[k]? = some p:=hp;have hc:N.comps[k]? = some c:=hc;have hk:=(List.getElem?_eq_some_iff.1 hc).1;rw[openK_get,zU hk]at hp;obtain⟨q,hq,rfl⟩:=Option.map_eq_some_iff.1 hp;exact(h.ps k c q hc hq).open_ hc (S14.ok_is ((S14.check_zero h.check).2.2 k c hc)).bits
theorem mem_reps{xs:List Int}{n:Nat}{x:Int}(h:x∈zcT xs n):x∈xs:=by
 unfold zcT at h;simp only[List.mem_flatten,List.mem_replicate]at h;obtain⟨l,⟨_,rfl⟩,h⟩:=h;exact h
theorem newM_ok14{bits least:Int}(h1:1≤bits∧bits≤16)(h2:1≤least∧least≤32):S12.newM bits least=S12.start bits least:=by
 have h:S12.okN bits least=true:=by unfold S12.okN;rw[zQ h1,zQ h2];rfl
 unfold S12.newM;rw[h];rfl
theorem GoodP.fresh{c:S14.C}{k:Int}(hok:S14.ok c k=true)(hk16:k≤16):GoodP 0 c (S14.freshA c) 1:=by
 have hi:=S14.ok_is hok;have h0:OK8 S14.P0.sd:=fun x hx=>by cases hx
 have hm0:S12.Byt S14.P0.m.bytes:=fun x hx=>by cases hx
 unfold S14.freshA
 have hlim:∀l:Int,S14.has l 1 1023=true→S08.check 32768 0 l=0:=fun l hl=>by
  rw[S14.has_iff]at hl;unfold S08.check;rw[zK (by omega),zK (by omega)]
 rcases hi.kind with hk|hk|hk|hk|hk|hk|hk
 ·rw[zK (by omega),zK (by omega),zK (by omega),zK (by omega),zK (by omega)];exact⟨(zfH (.inl hk)).2 rfl,h0,hm0,zE _⟩
 ·rw[zU hk];unfold S14.ok at hok;rw[zK (by omega),zU hk]at hok;unfold S14.okDirect at hok;simp only[yF]at hok;refine⟨(zlE hk).2 ⟨rfl,okCtrs_iff.2 ⟨yR,fun x hx=> ?_⟩⟩,h0,hm0,zE _⟩;have hx:=List.eq_of_mem_replicate hx;subst hx;exact hlim _ hok.2
 ·rw[zK (by omega),zU hk];unfold S14.ok at hok;rw[zK (by omega),zK (by omega),zU hk]at hok;unfold S14.okDirect at hok;simp only[yF]at hok;have hbn:=hi.bits;obtain⟨n,hn⟩:∃n:Nat,c.bits=n:=⟨c.bits.toNat,by omega⟩;have hG:=Good.new (n:=n) (by omega);have eB:S10.newB c.bits=c.bits:=zU hbn;have eX:S10.newX c.bits=List.replicate (16*2^n) 0:=by
   unfold S10.newX;rw[zU hbn,hn,Int.toNat_natCast]
  have h2n:(0:Int)<2^c.bits.toNat:=by
   have:((2^c.bits.toNat:Nat):Int)=2^c.bits.toNat:=by simp
   have:=zaS c.bits.toNat;omega
  unfold S14.freshH;rw[eB,eX];refine⟨(zgU hk).2 ⟨⟨⟨⟨okCtrs_iff.2 ⟨yR,fun x hx=> ?_⟩,rfl⟩,?_⟩,?_⟩,rfl⟩,hG.ok,hm0,zE _⟩
  ·have hx:=List.eq_of_mem_replicate hx;subst hx;exact hlim _ hok.2
  ·show S10.check c.bits _=0;rw[hn];exact hG.check
  ·show(0:Int)≤0∧(0:Int)≤_;omega
 ·rw[zK (by omega),zK (by omega),zU hk];unfold S14.ok at hok;rw[zK (by omega),zK (by omega),zK (by omega),zU hk]at hok;unfold S14.okMatch at hok;simp only[yF,S14.has_iff]at hok;rw[newM_ok14 hok.1.2 hok.2];have hs:=S12.start_wf hok.1.2 hok.2;exact⟨(zmU hk).2 ⟨⟨⟨⟨rfl,rfl⟩,rfl⟩,rfl⟩,(S12.check_iff _).2 hs.wf⟩,h0,(fun x hx=>by cases hx),zE _⟩
 ·rw[zK (by omega),zK (by omega),zK (by omega),zK (by omega),zK (by omega)];exact⟨(zfH (.inr hk)).2 rfl,h0,hm0,zE _⟩
 ·rw[zK (by omega),zK (by omega),zK (by omega),zU hk];have hm:=hi.mix hk;have hp:=zdP (n:=c.bits.toNat) (by have:=hi.bits;omega);obtain⟨q,hq⟩:∃q:Nat,c.second-c.first+1=(q:Int):=⟨(c.second-c.first+1).toNat,by omega⟩;refine⟨(right_mix hk).2 ⟨⟨⟨rfl,rfl⟩,?_⟩,?_⟩,h0,hm0,zE _⟩
  ·show((List.replicate _ _).length:Int)=_;rw[yR];simp
  ·show S13.check 16 (c.second-c.first+1) _=0;rw[hq,Int.toNat_natCast];unfold S13.check;rw[yR,zK (by omega)];refine S13.rows_of (fun l hl=> ?_);have hl:=List.eq_of_mem_replicate hl;subst hl;refine⟨by rw[yR],?_⟩;rw[List.any_eq_false];intro x hx;have hx:=List.eq_of_mem_replicate hx;subst hx;have hd1:0≤(65536:Int)/q:=Int.ediv_nonneg (by decide) (by omega);have hd2:(65536:Int)/q≤65536:=Int.ediv_le_self _ (by decide);unfold S13.heavy;simp;omega
 ·rw[zK (by omega),zK (by omega),zK (by omega),zK (by omega),zU hk];have hp:=zdP (n:=c.bits.toNat) (by have:=hi.bits;omega);have hl:(zcT S11.first (2^c.bits.toNat)).length=2^c.bits.toNat*33:=by rw[zcO,S11.first_length]
  refine⟨(zlD hk).2 ⟨⟨rfl,?_⟩,check11_of ?_ ?_ ?_ (fun x hx=> ?_)⟩,h0,hm0,zE _⟩
  ·show((zcT S11.first (2^c.bits.toNat)).length:Int)=_;rw[hl,Int.natCast_mul];simp;omega
  ·rw[hl];exact Nat.mul_mod_left _ _
  ·rw[hl];omega
  ·rw[hl];omega
  ·have hx:=mem_reps hx;unfold S11.first at hx;obtain⟨i,_,rfl⟩:=List.mem_map.1 hx;have:=S06.squash_bounds (192*(i:Int)-3072);omega
def S14.newN(l:List S14.C):S14.N:=⟨l,l.map S14.freshA,List.replicate 16 0,1⟩
theorem GoodN.new{l:List S14.C}(h:S14.check l=0):GoodN (S14.newN l) 0 where
 check:=h
 len:=zaA _
 xl:=yR
 pt:=⟨Int.le_refl 1,(by decide:(1:Int)≤255)⟩
 ps:=fun k c p hc hp=>by
  have hp:(l.map S14.freshA)[k]? = some p:=hp;have hc:l[k]? = some c:=hc;have hk:=(List.getElem?_eq_some_iff.1 hc).1;have hl:=(S14.check_zero h).2.1;rw[zaH,hc]at hp;cases hp;exact GoodP.fresh ((S14.check_zero h).2.2 k c hc) (by omega)
theorem fresh_all(l:List S14.C)(hl:l.length≤16):zkR l S14.freshA:=fun k c hc hok W=>by
 have hi:=S14.ok_is hok;have hk:=(List.getElem?_eq_some_iff.1 hc).1;unfold zpY S14.freshA;rcases hi.kind with h|h|h|h|h|h|h
 ·rw[zU h,zK (by omega),zK (by omega),zK (by omega),zK (by omega),zK (by omega)];exact(zfX c W).mono fun e w' h=>⟨zbC,h.1,PRob.zero _ _ _,h.2⟩
 ·rw[zK (by omega),zU h,zU h];exact zhM c c.bits.toNat _ (by have:=hi.bits;omega) (zbX hi.bits.1) rfl W
 ·rw[zK (by omega),zK (by omega),zU h,zK (by omega),zU h];exact znR c W
 ·rw[zK (by omega),zK (by omega),zK (by omega),zU h,zK (by omega),zK (by omega),zU h];exact znN c W
 ·rw[zK (by omega),zK (by omega),zK (by omega),zK (by omega),zU h,zK (by omega),zK (by omega),zK (by omega),zK (by omega),zK (by omega)];exact(zgP c W).mono fun e w' h=>⟨zbC,h.1,PRob.zero _ _ _,h.2⟩
 ·rw[zK (by omega),zK (by omega),zK (by omega),zK (by omega),zK (by omega),zU h,zK (by omega),zK (by omega),zK (by omega),zU h];have hm:=hi.mix h;have H:=zqM c c.bits.toNat _ (c.second-c.first+1).toNat (by have:=hi.bits;omega) (zbX hi.bits.1) rfl ⟨hm.1,hm.2.1,by omega⟩ (zbX (by omega)) (by omega) W;rw[←zbX (by omega)]at H;exact H
 ·rw[zK (by omega),zK (by omega),zK (by omega),zK (by omega),zK (by omega),zK (by omega),zK (by omega),zK (by omega),zK (by omega),zK (by omega),zU h];exact zmY c c.bits.toNat _ (by have:=hi.bits;omega) (zbX hi.bits.1) rfl W
def NetE(E:Nat→Prop)(N:S14.N)(VS:List Value)(w:World):Prop:=∃L,VS=zbP N L∧∀W,KepX E w W→NIs N L W
theorem NetE.len{E:Nat→Prop}{N:S14.N}{VS:List Value}{w:World}(h:NetE E N VS w):VS.length=4:=by obtain⟨L,rfl,_⟩:=h;rfl
theorem GoodN.opens{N:S14.N}{t:Nat}(h:GoodN N t)(w:World):zgQ w N (S14.opened N):=
 have hz:=S14.check_zero h.check
 zqI w N hz.1 hz.2.1 (S14.kinds_of h.check) h.len h.xl h.pt.1 h.pt.2
theorem new_all{l:List S14.C}(h:S14.check l=0)(a:Option Addr)(cap:Nat)(w:World)(hrd:Rd w a (zcS l)) :
 Calls Tryz.prog 15 #[.slice a l.length cap] w fun e w'=>∃VS,e = .returned (.tuple #[.agg VS.toArray,.int .i64 0])∧NetE (fun k=>k<w.heap.size) (S14.opened (S14.newN l)) VS w'∧Below w.heap.size w w':=
 (zgW l S14.freshA (S14.opened (S14.newN l)) a cap w hrd h (fresh_all l (S14.check_zero h).2.1) ((GoodN.new h).opens w)).mono fun e w' ⟨L,h1,h2,h3⟩=>⟨_,h1,⟨L,rfl,h2⟩,h3⟩
