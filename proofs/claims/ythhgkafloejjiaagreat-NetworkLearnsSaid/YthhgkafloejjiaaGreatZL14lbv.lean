/- A part of the proof of L14l. No condition. -/
import Derived.Test.YthhgkafloejjiaaGreatZL14lbo
import Derived.Test.YthhgkafloejjiaaGreatZL14lbs
set_option linter.all false
set_option maxRecDepth 100000
set_option maxHeartbeats 2000000
namespace Go.Proofs.YthhgkafloejjiaaGreat
open Go.RowKit
def S14.seen(N:S14.N)(k:Nat)(c:S14.C):List Int:=((S14.outs (S14.outA N) k).drop c.first.toNat).take (c.second.toNat+1-c.first.toNat)
def S14.st(N:S14.N)(p:S14.P):Nat:=(S10.getN p.sb p.sd p.slot (S14.node N.part.toNat:Nat)).toNat
def S14.learnP(N:S14.N)(bit:Int)(k:Nat)(c:S14.C)(p:S14.P):S14.P:=
 if c.kind=1 then {p with ctrs:=S14.upd p.ctrs (S14.at_ N k c) bit c.limit}
 else if c.kind=2 then {p with ctrs:=S14.upd p.ctrs (S14.st N p) bit c.limit,sb:=S10.setB p.sb p.sd p.slot (S14.node N.part.toNat:Nat) (S09.nextS (S14.st N p) bit),sd:=S10.setX p.sb p.sd p.slot (S14.node N.part.toNat:Nat) (S09.nextS (S14.st N p) bit)}
 else if c.kind=3 then {p with m:=S12.bitR p.m bit}
 else if c.kind=5 then {p with mi:=p.mi,mw:=S13.learnL p.mw (S14.at_ N k c) (S14.seen N k c) bit c.rate}
 else if c.kind=6 then {p with ac:=S11.update p.ac (S14.at_ N k c) (S06.squash ((S14.outs (S14.outA N) k).getD c.first.toNat 0)) bit c.rate}
 else p
def S14.learnA(N:S14.N)(bit:Int)(k:Nat):S14.P:=S14.learnP N bit k (N.comps.getD k S14.zc) (N.parts.getD k S14.P0)
theorem zcW{c:S14.C}{p:S14.P}{pt:Int}(h:c.kind=0∨c.kind=4):S14.right c p pt=true↔S14.bare p=true:=by
 unfold S14.right;rcases h with h|h
 ·rw[zQ h]
 ·rw[zG om,zG om,zG om,zG om,zQ h]
theorem zdS{c:S14.C}{p:S14.P}{pt:Int}(h:c.kind=1):S14.right c p pt=true↔S14.bare {p with ctrs:=[]}=true∧S14.okCtrs p.ctrs (2^c.bits.toNat) c.limit=true:=by
 unfold S14.right;rw[zG om,zQ h,zS]
theorem zeH{c:S14.C}{p:S14.P}{pt:Int}(h:c.kind=2):S14.right c p pt=true↔(((S14.okCtrs p.ctrs 215 c.limit=true∧p.sb=c.bits)∧S10.check p.sb p.sd=0)∧(0≤p.slot∧p.slot≤2^c.bits.toNat-1))∧S14.bare {p with ctrs:=[],sb:=0,sd:=[],slot:=0}=true:=by
 unfold S14.right;rw[zG om,zG om,zQ h];simp only[zS,yC,beq_iff_eq,S14.has_iff]
theorem zfP{c:S14.C}{p:S14.P}{pt:Int}(h:c.kind=3):S14.right c p pt=true↔(((S14.bare {p with m:=S14.zM}=true∧p.m.bits=c.bits)∧p.m.least=c.limit)∧p.m.part=pt)∧S12.check p.m=0:=by
 unfold S14.right;rw[zG om,zG om,zG om,zQ h];simp only[zS,yC,beq_iff_eq]
theorem zhZ{c:S14.C}{p:S14.P}{pt:Int}(h:c.kind=5):S14.right c p pt=true↔((S14.bare {p with mi:=0,mw:=[]}=true∧p.mi=c.second-c.first+1)∧(p.mw.length:Int)=2^c.bits.toNat)∧S13.check 16 p.mi p.mw=0:=by
 unfold S14.right;rw[zG om,zG om,zG om,zG om,zG om,zQ h];simp only[zS,yC,beq_iff_eq]
theorem zdR{c:S14.C}{p:S14.P}{pt:Int}(h:c.kind=6):S14.right c p pt=true↔(S14.bare {p with ac:=[]}=true∧(p.ac.length:Int)=33*2^c.bits.toNat)∧S11.check p.ac=0:=by
 unfold S14.right;rw[zG om,zG om,zG om,zG om,zG om,zG om,zQ h];simp only[zS,yC]
theorem okCtrs_iff{l:List (Int×Int)}{n:Nat}{a:Int}:S14.okCtrs l n a=true↔l.length=n∧∀c∈l,S08.check c.1 c.2 a=0:=by
 unfold S14.okCtrs;simp only[zS,yC,Bool.not_eq_true',List.any_eq_false,Decidable.not_not]
theorem step_check{p n bit b:Int}(h:S08.check p n b=0)(a:bit=0∨bit=1):S08.check (S08.updateP p n bit b) (S08.updateN p n bit b) b=0:=by
 obtain⟨l,i,f,e,g,j⟩:=S08.check_ok h;have d:S08.updateE p n bit b=0:=by unfold S08.updateE;rw[zG (by rw[h];simp),zG om]
 have c:=S08.step_between f e g a;unfold S08.updateP S08.updateN;rw[zG (by rw[d];simp),zG (by rw[d];simp)];have k:0≤S08.step p n bit∧S08.step p n bit≤65535:=by
  rcases a with a|a
  ·have:=c.2 a;omega
  ·have:=c.1 a;omega
 unfold S08.check;rw[zG om,zG om]
theorem zsW{l:List (Int×Int)}{n i:Nat}{bit a:Int}(h:S14.okCtrs l n a=true)(f:i<n)(e:bit=0∨bit=1):S14.okCtrs (S14.upd l i bit a) n a=true:=by
 rw[okCtrs_iff]at h⊢;unfold S14.upd;refine⟨by rw[yH];exact h.1,fun c b=> ?_⟩;rcases List.mem_or_eq_of_mem_set b with b|rfl
 ·exact h.2 c b
 ·have d:l.getD i (0,0)∈l:=by
   rw[zK,zD om,zcC];exact yR _
  exact step_check (h.2 _ d) e
theorem ztI{d:Int}{xs:List Int}(h:S10.check d xs=0)(e:OK8 xs):∃n:Nat,d=n∧Good n xs:=by
 obtain⟨n,rfl,g,c,a⟩:=S10.correct h;refine⟨n,rfl,g,c,e,fun j i f=> ?_⟩;rw[S10.bad_eq c]at a;unfold S10.badP at a;rw[List.any_eq_false]at a;have b:=a j (List.mem_range.2 om);unfold S10.bad2 at b;rw[zO f,zaP,yC]at b;omega
theorem zsX:∀p<256,1≤p→1≤S14.node p∧S14.node p≤15:=by decide +kernel
theorem bitM_facts(m:S12.M)(b:Int):(S12.bitM m b).bits=m.bits∧(S12.bitM m b).least=m.least∧(S12.bitM m b).part=(if 255<2*m.part+b then 1 else 2*m.part+b)∧((S12.bitM m b).bytes=m.bytes∨(255<2*m.part+b∧(S12.bitM m b).bytes=m.bytes ++ [2*m.part+b-256])):=by
 obtain⟨a,c,e,d,f⟩:=S12.learn_bits m b;unfold S12.bitM S12.expect S12.take;rw[d];by_cases h:255<2*m.part+b
 ·rw[zQ h,zQ h];simp only;unfold S12.search S12.extend;refine⟨?_,?_,?_,.inr ⟨h,?_⟩⟩<;>(repeat' split)<;>simp_all
 ·rw[zG h,zG h];exact⟨a,c,rfl,.inl e⟩
structure GoodP(t:Nat)(c:S14.C)(p:S14.P)(pt:Int):Prop where
 right:S14.right c p pt=true
 tab:OK8 p.sd
 byt:S12.Byt p.m.bytes
 few:p.m.bytes.length≤t
structure GoodN(N:S14.N)(t:Nat):Prop where
 check:S14.check N.comps=0
 len:N.parts.length=N.comps.length
 xl:N.ctxs.length=16
 pt:1≤N.part∧N.part≤255
 ps:∀(k:Nat) (c:S14.C) (p:S14.P),N.comps[k]? = some c→N.parts[k]? = some p→GoodP t c p N.part
theorem GoodN.net{N:S14.N}{t:Nat}(h:GoodN N t):S14.checkNet N=0:=S14.checkNet_of h.check h.len h.xl h.pt (fun k c p b a=>(h.ps k c p b a).right)
theorem at_lt{N:S14.N}{k:Nat}{c:S14.C}(h:0≤c.bits∧c.bits≤16):S14.at_ N k c<2^c.bits.toNat:=S14.index_lt _ _ om
theorem S14.outs_in{N:S14.N}{L:NLay}{w:World}{O:Nat→List Int→Int}(a:zgG N L w O):∀k,k≤N.comps.length→∀x∈S14.outs O k,-3071≤x∧x≤3071
 | 0,_,x,hx=>by cases hx
 | k+1,hk,x,hx=>by
   have b:=S14.outs_in a k om;rw[S14.outs,List.mem_append,zaQ]at hx;rcases hx with h|rfl
   ·exact b x h
   ·have d:N.comps[k]? = some N.comps[k]:=zD om;have c:Below w w (w.alloc (.cells (zaE (S14.outs O k)).toArray 3)):=(zJ _ _).alloc (zF _) _;exact(a k _ d (S14.outs O k) (some ⟨w,0,none⟩) _ c (Rd.new w (zaE (S14.outs O k)) _) (S14.outs_length O k) b).2
theorem GoodP.hist{t:Nat}{N:S14.N}{c:S14.C}{p:S14.P}{bit:Int}(h:GoodP t c p N.part)(m:c.kind=2)(q:1≤N.part∧N.part≤255)(l:bit=0∨bit=1) :
 S10.getN p.sb p.sd p.slot (S14.node N.part.toNat:Nat)=(S14.st N p:Int)∧S14.st N p<215∧p.ctrs.length=215∧S09.nextE (S14.st N p) bit=0∧(0≤S09.nextS (S14.st N p) bit∧S09.nextS (S14.st N p) bit<215)∧
  S10.setE p.sb p.sd p.slot (S14.node N.part.toNat:Nat) (S09.nextS (S14.st N p) bit)=0:=by
 obtain⟨⟨⟨⟨n,f⟩,a⟩,o⟩,r⟩:=(zeH m).1 h.right;have k:=S10.getN_lt p.slot (S14.node N.part.toNat:Nat) a h.tab;have j:S10.getN p.sb p.sd p.slot (S14.node N.part.toNat:Nat)=(S14.st N p:Int):=(zgO k.1).symm;have i:S14.st N p<215:=by unfold S14.st;omega
 obtain⟨B,d,rfl⟩:∃B:Nat,B<2∧bit=(B:Int):=by rcases l with rfl|rfl;exact⟨0,by decide,rfl⟩;exact⟨1,by decide,rfl⟩
 have e:=S09.nextS_ok (s:=(S14.st N p:Int)) ⟨by omega,by omega⟩ d;have b:=S09.next_range (s:=(S14.st N p:Int)) ⟨by omega,by omega⟩ d;rw[←e.1]at b;have u:=zsX N.part.toNat om om;refine⟨j,i,(okCtrs_iff.1 n).1,e.2,b,?_⟩;unfold S10.setE;have g:S10.node p.sb p.sd p.slot (S14.node N.part.toNat:Nat)=0:=by
  unfold S10.node;rw[zQ a];unfold S10.exists;rw[zO (by rw[f];omega),zO om];rfl
 rw[zQ g,zQ om]
theorem GoodP.mix{t:Nat}{N:S14.N}{k:Nat}{c:S14.C}{p:S14.P}(h:GoodP t c p N.part)(g:c.kind=5)(f:0≤c.bits∧c.bits≤16)(n:0≤c.first∧c.first≤c.second∧c.second≤(k:Int)-1)
 (i:∀x∈S14.outs (S14.outA N) k,-3071≤x∧x≤3071):S13.usable 16 p.mi p.mw (S14.at_ N k c:Nat) (S14.seen N k c)=0:=by
 obtain⟨⟨⟨o,a⟩,b⟩,d⟩:=(zhZ g).1 h.right;have q:=at_lt (N:=N) (k:=k) f;have e:(S14.seen N k c).length=c.second.toNat+1-c.first.toNat:=by unfold S14.seen;rw[yJ,List.length_drop,S14.outs_length];omega
 unfold S13.usable;have m:((2^c.bits.toNat:Nat):Int)=2^c.bits.toNat:=by simp
 rw[zG (by rw[d];simp),zG (by rw[b];omega),zG (by rw[e,a];omega),zG];rw[Bool.not_eq_true,List.any_eq_false];intro x j;have l:=i x (List.mem_of_mem_drop (List.mem_of_mem_take j));unfold S13.strong;simp;omega
theorem GoodP.refine{t:Nat}{N:S14.N}{k:Nat}{c:S14.C}{p:S14.P}(h:GoodP t c p N.part)(e:c.kind=6)(b:0≤c.bits∧c.bits≤16)(x:Int):S11.usable p.ac (S14.at_ N k c:Nat) (S06.squash x)=0:=by
 obtain⟨⟨g,f⟩,a⟩:=(zdR e).1 h.right;have i:=at_lt (N:=N) (k:=k) b;have j:=S06.squash_bounds x;have d:p.ac.length=33*2^c.bits.toNat:=by
  have:((33*2^c.bits.toNat:Nat):Int)=33*2^c.bits.toNat:=by simp
  omega
 unfold S11.usable;rw[zG (by rw[a];simp),zG (by rw[d,Nat.mul_div_cancel_left _ by2];omega),zG om]
theorem check11_of{l:List Int}(e:l.length%33=0)(c:33≤l.length)(d:l.length≤2162688)(a:∀x∈l,0≤x∧x≤65535):S11.check l=0:=by
 unfold S11.check;rw[zG om,zG];rw[Bool.not_eq_true,List.any_eq_false];intro x b;have:=a x b;unfold S11.bad;simp;omega
theorem zkF{l:List Int}(h:S11.check l=0):(l.length%33=0∧33≤l.length∧l.length≤2162688)∧∀x∈l,0≤x∧x≤65535:=by
 unfold S11.check at h;split at h
 ·cases h
 ·split at h
  ·cases h
  ·rename_i c a
   refine⟨by omega,fun x b=> ?_⟩;rw[Bool.not_eq_true,List.any_eq_false]at a;have:=a x b;unfold S11.bad at this;simp at this;omega
theorem check11_upd{l:List Int}{c:Nat}{p bit rate:Int}(h:S11.check l=0)(f:bit=0∨bit=1)(o:1≤rate∧rate≤255):S11.check (S11.update l c p bit rate)=0:=by
 obtain⟨⟨q,k,m⟩,e⟩:=zkF h;have n:=S11.update_length l c p bit rate;have r:=S11.from_bounds p
 have b:∀i,0≤l.getD i 0∧l.getD i 0≤65535:=fun i=>by
  rw[zK];rcases yU i l.length with d|d
  ·rw[zD d,zcC];exact e _ (yR d)
  ·rw[yY d];simp
 refine check11_of om om om (fun y a=> ?_);have g:=fun i=>(S11.learn_facts (u:=l.getD i 0) (b i).1 (b i).2 f (rate:=rate) om om (share:=192-S11.from p) om om).2.2.2.2;have j:=fun i=>(S11.learn_facts (u:=l.getD i 0) (b i).1 (b i).2 f (rate:=rate) om om (share:=S11.from p) om om).2.2.2.2;unfold S11.update at a;rcases List.mem_or_eq_of_mem_set a with a|rfl
 ·rcases List.mem_or_eq_of_mem_set a with a|rfl
  ·exact e y a
  ·exact g _
 ·exact j _
theorem zpR(d rate:Int):∀b a:List Int,b.any S13.heavy=false→(S13.learnRow d rate b a).any S13.heavy=false
 | [],a,h=>by cases a<;>exact h
 | w::b,[],h=>h
 | w::b,x::a,h=>by
   rw[List.any_cons,Bool.or_eq_false_iff]at h;show(S13.lw d rate w x::S13.learnRow d rate b a).any S13.heavy=false;rw[List.any_cons,zpR d rate b a h.2,Bool.or_false];unfold S13.lw S13.heavy;simp;omega
theorem zuV{n:Int}{L:List (List Int)}(h:S13.check 16 n L=0)(c:Nat)(xs:List Int)(bit rate:Int):S13.check 16 n (S13.learnL L c xs bit rate)=0:=by
 obtain⟨k,f,i,g,b⟩:=S13.check_zero h;unfold S13.check;have j:(S13.learnL L c xs bit rate).length=L.length:=by unfold S13.learnL;rw[yH]
 rw[zG om];refine S13.rows_of (fun l a=> ?_);unfold S13.learnL at a;rcases List.mem_or_eq_of_mem_set a with a|rfl
 ·exact b l a
 ·rw[S13.learnRow_length];by_cases e:c<L.length
  ·have d:L.getD c []∈L:=by
    rw[zK,zD e,zcC];exact yR _
   exact⟨(b _ d).1,zpR _ _ _ _ (b _ d).2⟩
  ·rw[List.set_eq_of_length_le om]at a;rw[←S13.learnRow_length];exact b _ a
theorem GoodP.learn{t:Nat}{N:S14.N}{k:Nat}{c:S14.C}{p:S14.P}{bit:Int}(h:GoodP t c p N.part)(l:S14.ok c (k:Int)=true)(H:1≤N.part∧N.part≤255)(U:t<65536)(g:bit=0∨bit=1):GoodP (t+1) c (S14.learnP N bit k c p) (S14.next N.part bit):=by
 have E:=S14.ok_is l;unfold S14.learnP;rcases E.kind with a|a|a|a|a|a|a
 ·rw[zG om,zG om,zG om,zG om,zG om];exact⟨(zcW (.inl a)).2 ((zcW (.inl a)).1 h.right),h.tab,h.byt,Nat.le_succ_of_le h.few⟩
 ·rw[zQ a];have D:=(zdS a).1 h.right;exact⟨(zdS a).2 ⟨D.1,zsW D.2 (at_lt E.bits) g⟩,h.tab,h.byt,Nat.le_succ_of_le h.few⟩
 ·rw[zG om,zQ a];obtain⟨Q,L,T,R,m,S⟩:=h.hist a H g;obtain⟨⟨⟨⟨f,d⟩,e⟩,j⟩,v⟩:=(zeH a).1 h.right;obtain⟨n,C,w⟩:=ztI e h.tab;have q:=zsX N.part.toNat om om;have z:c.bits.toNat=n:=by omega
  rw[z]at j;have P:((2^n:Nat):Int)=2^n:=by simp
  obtain⟨o,G⟩:∃x:Nat,p.slot=(x:Int):=⟨p.slot.toNat,by omega⟩;have F:o<2^n:=by omega
  have s:=w.setB (i:=o) (k:=S14.node N.part.toNat) F q.1 q.2 m;have u:=w.setX (i:=o) (k:=S14.node N.part.toNat) F q.1 q.2 m;rw[←C,←G]at s u;have y:=w.set (16*o+S14.node N.part.toNat) (S09.nextS (S14.st N p) bit) ⟨m.1,by omega⟩ (fun _=>m.2);refine⟨(zeH a).2 ⟨⟨⟨⟨zsW f L g,?_⟩,?_⟩,?_⟩,v⟩,?_,h.byt,Nat.le_succ_of_le h.few⟩
  ·show S10.setB _ _ _ _ _=_;rw[s];exact d
  ·show S10.check (S10.setB _ _ _ _ _) (S10.setX _ _ _ _ _)=0;rw[s,u,C];exact y.check
  ·show 0≤p.slot∧p.slot≤_;rw[z];exact j
  ·show OK8 (S10.setX _ _ _ _ _);rw[u];exact y.ok
 ·rw[zG om,zG om,zQ a];obtain⟨⟨⟨⟨f,d⟩,e⟩,j⟩,v⟩:=(zfP a).1 h.right;have A:=(S12.check_iff p.m).1 v;have B:=S12.bitE_ok A g (by have:=h.few;omega);have K:S12.bitR p.m bit=S12.bitM p.m bit:=by unfold S12.bitR;rw[zQ B]
  obtain⟨I,M,J,b⟩:=bitM_facts p.m bit;rw[K];refine⟨(zfP a).2 ⟨⟨⟨⟨f,I.trans d⟩,M.trans e⟩,?_⟩,(S12.check_iff _).2 (A.bitM h.byt g B)⟩,h.tab,?_,?_⟩
  ·show(S12.bitM p.m bit).part=_;rw[J,j];rfl
  ·show S12.Byt (S12.bitM p.m bit).bytes;rcases b with b|⟨V,b⟩
   ·rw[b];exact h.byt
   ·rw[b];intro x r;rw[List.mem_append,zaQ]at r;rcases r with r|rfl
    ·exact h.byt x r
    ·omega
  ·show(S12.bitM p.m bit).bytes.length≤_;have:=h.few;rcases b with b|⟨_,b⟩
   ·rw[b];omega
   ·rw[b,zaG,List.length_singleton];omega
 ·rw[zG om,zG om,zG om,zG om,zG om];exact⟨(zcW (.inr a)).2 ((zcW (.inr a)).1 h.right),h.tab,h.byt,Nat.le_succ_of_le h.few⟩
 ·rw[zG om,zG om,zG om,zQ a];obtain⟨⟨⟨f,d⟩,e⟩,j⟩:=(zhZ a).1 h.right;refine⟨(zhZ a).2 ⟨⟨⟨f,d⟩,?_⟩,zuV j _ _ _ _⟩,h.tab,h.byt,Nat.le_succ_of_le h.few⟩;show((S13.learnL _ _ _ _ _).length:Int)=_;unfold S13.learnL;rw[yH];exact e
 ·rw[zG om,zG om,zG om,zG om,zQ a];obtain⟨⟨f,d⟩,e⟩:=(zdR a).1 h.right;have O:1≤c.rate∧c.rate≤255:=by
   unfold S14.ok at l;rw[zG om,zG om,zG om,zG om,zG om,zG om,zQ a]at l;unfold S14.okRefine at l;simp only[zS,S14.has_iff]at l;omega
  refine⟨(zdR a).2 ⟨⟨f,?_⟩,check11_upd e g O⟩,h.tab,h.byt,Nat.le_succ_of_le h.few⟩;show((S11.update _ _ _ _ _).length:Int)=_;rw[S11.update_length];exact d
theorem GoodP.open_{t:Nat}{N:S14.N}{k:Nat}{c:S14.C}{p:S14.P}(h:GoodP t c p N.part)(r:N.comps[k]? = some c)(u:0≤c.bits∧c.bits≤16):GoodP t c (S14.openP N k p) N.part:=by
 unfold S14.openP;rw[r];by_cases b:c.kind=2
 ·rw[zQ (by rw[Option.map_some,b])];obtain⟨⟨⟨⟨s,l⟩,m⟩,w⟩,q⟩:=(zeH b).1 h.right;obtain⟨n,f,g⟩:=ztI m h.tab;have i:c.bits.toNat=n:=by omega
  have j:=S14.hash_lt (N.ctxs.getD k 0) N.part.toNat;have a:=g.openX _ j;have o:=g.openN_lt (S14.hash (N.ctxs.getD k 0) N.part.toNat);have d:=g.openB;rw[←f]at a o d;have v:((2^n:Nat):Int)=2^n:=by simp
  unfold S14.open1;refine⟨(zeH b).2 ⟨⟨⟨⟨s,?_⟩,?_⟩,?_⟩,q⟩,a.ok,h.byt,h.few⟩
  ·show S10.openB _ _=_;rw[d];exact l
  ·show S10.check (S10.openB _ _) _=0;rw[d,f];rw[f]at a;exact a.check
  ·show 0≤((S10.openN _ _ _:Nat):Int)∧((S10.openN _ _ _:Nat):Int)≤_;rw[i];omega
 ·rw[zG (by rw[Option.map_some];exact fun e=>b (zI e))];exact h
theorem openK_get{N:S14.N}:∀(n j:Nat),(S14.openK N n)[j]? = if j<n then(N.parts[j]?).map (S14.openP N j)else N.parts[j]?
 | 0,j=>by rw[zG om];rfl
 | n+1,j=>by
   have e:=openK_get (N:=N) n;rw[S14.openK];have d:=e n;rw[zG om]at d;split
   ·rename_i p b
    rw[List.getElem?_set];have f:=(List.getElem?_eq_some_iff.1 b).1;by_cases c:n=j
    ·subst c;rw[zQ rfl,zQ f,zQ om,←d,b];rfl
    ·rw[zG c,e j];by_cases a:j<n
     ·rw[zQ a,zQ om]
     ·rw[zG a,zG om]
   ·rename_i b
    rw[e j];by_cases a:j<n
    ·rw[zQ a,zQ om]
    ·by_cases c:j=n
     ·subst c;rw[zG a,zQ om,←d,b];rfl
     ·rw[zG a,zG om]
theorem GoodN.open_{N:S14.N}{t:Nat}(h:GoodN N t):GoodN (S14.opened N) t where
 check:=h.check
 len:=(S14.openK_length N _).trans h.len
 xl:=h.xl
 pt:=h.pt
 ps:=fun k c p a b=>by
  have b:(S14.openK N N.comps.length)[k]? = some p:=b;have a:N.comps[k]? = some c:=a;have d:=(List.getElem?_eq_some_iff.1 a).1;rw[openK_get,zQ d]at b;obtain⟨q,e,rfl⟩:=Option.map_eq_some_iff.1 b;exact(h.ps k c q a e).open_ a (S14.ok_is ((S14.check_zero h.check).2.2 k c a)).bits
theorem zsU(G:Nat→S14.P)(ps:List S14.P):∀n j,(S14.parts1 G ps n)[j]? = if j<n∧j<ps.length then some (G j)else ps[j]?
 | 0,j=>by rw[zG om];rfl
 | n+1,j=>by
   rw[S14.parts1,List.getElem?_set,S14.parts1_length,zsU G ps n j];by_cases b:n=j
   ·subst b;rw[zQ rfl];by_cases a:n<ps.length
    ·rw[zQ a,zQ ⟨by omega,a⟩]
    ·rw[zG a,zG om,yY om]
   ·rw[zG b];by_cases a:j<n∧j<ps.length
    ·rw[zQ a,zQ ⟨by omega,a.2⟩]
    ·rw[zG a,zG om]
def S14.learned(N:S14.N)(bit:Int):S14.N:=⟨N.comps,S14.parts1 (S14.learnA N bit) N.parts N.comps.length,N.ctxs,S14.next N.part bit⟩
theorem next_range{p bit:Int}(h:1≤p∧p≤255)(a:bit=0∨bit=1):1≤S14.next p bit∧S14.next p bit≤255:=by
 unfold S14.next;split<;>omega
theorem GoodN.learn{N:S14.N}{t:Nat}(h:GoodN N t)(i:t<65536){bit:Int}(e:bit=0∨bit=1):GoodN (S14.learned N bit) (t+1) where
 check:=h.check
 len:=(S14.parts1_length _ _ _).trans h.len
 xl:=h.xl
 pt:=next_range h.pt e
 ps:=fun k c p a b=>by
  have b:(S14.parts1 (S14.learnA N bit) N.parts N.comps.length)[k]? = some p:=b;have a:N.comps[k]? = some c:=a;have f:=(List.getElem?_eq_some_iff.1 a).1;have d:k<N.parts.length:=by rw[h.len];exact f
  rw[zsU,zQ ⟨f,d⟩]at b;cases b;have g:N.parts[k]? = some N.parts[k]:=zD d;unfold S14.learnA;rw[yS a,yS g];exact(h.ps k c _ a g).learn ((S14.check_zero h.check).2.2 k c a) h.pt i e
theorem zfI{P:Program}{Y:Array Value→Nat→Option Bool}{Q:Exit→Act→World→Prop}{S:World→Prop}{G:Act→World→Prop}{w:World}{f:List (KU×Oper)}{o:Oper}{a:Act}(e:TypeId)(x y:Operand)(i:o.op = .store e x y)(j:Region.wanted o (Y a.tmps)=true)
 (b d:Nat) (c:Array Value) (n:a.eval x = .pointer (some ⟨b,d,none⟩)) (k:a.eval y = .agg c) (g:w.there b d c.size) (m:(P.info? e).map (·.size)=some c.size) (l:c.all (·.oneCell')=true)
 (h:zbI P Y Q S G f (a.put o.dst undef) (w.setCells b d c.toList)):zbI P Y Q S G ((.l,o)::f) a w:=by
 unfold zbI;rw[zQ j];exact .inl (wp_store_mid e x y i b d c n k g m l h)
theorem PIs.bareH{p:S14.P}{y:Lay}{w w':World}{l:List (Int×Int)}{a d:Option Addr}{cap b:Nat}{B:Int}{c:List Int}(h:PIs p y w)(m:S14.bare {p with ctrs:=[],sb:=0,sd:=[],slot:=0}=true)(k:Rd w' a (Cts l))(g:Tab c d b w'):PIs {p with ctrs:=l,sb:=B,sd:=c} {y with a1:=a,c1:=cap,a2:=d,c2:=b} w':=by
 obtain⟨_,_,i,f,j,e,n⟩:=zbQ m;exact⟨k,g,h.mch.nil14 j e n,h.mix.nil14 i,h.apm.nil14 f⟩
theorem zqV(c:S14.C)(N:S14.N)(L:NLay)(k:Nat)(b:Value)(ad:b.oneCell'=true)(p:S14.P)(y:Lay)(s:Nat)(bit:Int)(w:World)(hN:NIs N L w)(hp:N.parts[k]? = some p)(hy:L.ys[k]? = some y)(pt:Nat)(ai:N.part=(pt:Int))(h1:1≤pt)(h2:pt≤255)
 (hs:S10.getN p.sb p.sd p.slot (S14.node pt:Nat)=(s:Int)) (a7:s<p.ctrs.length) (aL:p.ctrs.length≤65536) (bm:S09.nextE s bit=0) (aW:S10.setE p.sb p.sd p.slot (S14.node pt:Nat) (S09.nextS s bit)=0) (aJ:S14.bare {p with ctrs:=[],sb:=0,sd:=[],slot:=0}=true) :
 Calls Tryz.prog 183 #[CV c,VV N L k b,bit] w fun e A=>∃y',e = .returned (.tuple #[PV {p with ctrs:=S14.upd p.ctrs s bit c.limit,sb:=S10.setB p.sb p.sd p.slot (S14.node pt:Nat) (S09.nextS s bit),sd:=S10.setX p.sb p.sd p.slot (S14.node pt:Nat) (S09.nextS s bit)} y',.int .i64 0])∧
  PRob 0 w.heap.size {p with ctrs:=S14.upd p.ctrs s bit c.limit,sb:=S10.setB p.sb p.sd p.slot (S14.node pt:Nat) (S09.nextS s bit),sd:=S10.setX p.sb p.sd p.slot (S14.node pt:Nat) (S09.nextS s bit)} y' A∧Below w w A:=by
 have hk:k<N.parts.length:=(List.getElem?_eq_some_iff.1 hp).1;have hP:=hN.ps k p y hp hy;have X:=zC fun(W:World) (D:Below w w W)=>zbO N L k b ad W (hN.step D) hk p y hp hy;have O:=zC fun(W:World) (D:Below w w W)=>zpP c N L k b ad p y W (hN.step D) hp hy pt ai h1 h2;rw[hs]at O;have aA:=zC fun(W:World)=>next09_any (s:Int) bit W;have ac:=zC fun(W:World) (D:Below w w W)=>zkP p.ctrs s a7 aL bit c.limit y.a1 y.c1 W (hP.rc.step D);have aj:=zC fun(W:World)=>zpK N L k b W pt ai h1 h2;have Q:=zC fun(W:World) (D:Below w w W)=>set10_any p.sb p.sd p.slot (S14.node pt:Nat) (S09.nextS s bit) y.a2 y.c2 W (hP.tab.step D);have aZ:=zC (OK8.setX hP.tab.ok p.sb p.slot (S14.node pt:Nat) (S09.nextS s bit));obtain⟨T,ae⟩:=zvJ (S14.upd p.ctrs s bit c.limit);have az:T.length=p.ctrs.length:=by rw[←ae];unfold S14.upd;rw[yH]
 obtain⟨B,r,hB,af⟩:=zz2 (S10.setB p.sb p.sd p.slot (S14.node pt:Nat) (S09.nextS s bit)) (S10.setX p.sb p.sd p.slot (S14.node pt:Nat) (S09.nextS s bit));rw[hB,af,aW]at Q;rw[bm]at aA;rw[af]at aZ;rw[ae]at ac;rw[ae,hB,af];obtain⟨nd,a4⟩:=zvJ (((S14.node pt:Nat):Int));obtain⟨bA,bi⟩:∃x,S09.nextS s bit=x:=⟨_,rfl⟩;rw[a4]at aj Q;rw[bi]at aA Q;have bs:=zC fun(a h:Option Addr) (cap j:Nat) (A:World) (hr:Rd A a (Cts T)) (ht:Tab r h j A)=>hP.bareH (cap:=cap) (B:=B) aJ hr ht;have bw:=zC fun(a:Option Addr) (cap:Nat)=>(show yB {p with ctrs:=T} {y with a1:=a,c1:=cap}=(yB p y).set 0 (.slice a p.ctrs.length cap) by unfold yB;simp only[az];rfl);have aE:=zC fun(a h:Option Addr) (cap j:Nat)=>(show yB {p with ctrs:=T,sb:=B,sd:=r} {y with a1:=a,c1:=cap,a2:=h,c2:=j}=splice ((yB p y).set 0 (.slice a p.ctrs.length cap)) 1 [B,.slice h r.length j] by unfold yB;simp only[az];rfl);obtain⟨m,sb,sl,so,hm,am,ao,aw⟩:=zz4 p.ctrs.length p.sb p.sd.length p.slot;unfold zcK at Q;rw[am,ao,aw]at Q;rw[hm]at ac aE;have z:(yB p y)[0]? = some (.slice y.a1 p.ctrs.length y.c1):=rfl;have M:(yB p y)[1]? = some (.int .i64 p.sb):=rfl;have E:(yB p y)[2]? = some (.slice y.a2 p.sd.length y.c2):=rfl;have J:(yB p y)[3]? = some (.int .i64 p.slot):=rfl;rw[hm]at z;rw[am]at M;rw[ao]at E;rw[aw]at J;have ak:(yB p y).length=16:=rfl;have an:=zbC p y;unfold PV at X;unfold VV at X O aj⊢;unfold PV;obtain⟨VP,aN⟩:=zvJ (yB p y);rw[aN]at X ak an aE z M E J;obtain⟨ap,bt,Hv,bE⟩:=zh4 ak an (zZ z (zZ M (zZ E J))) ad;obtain⟨nc,np,Z,ba,aX,bh⟩:=zz3 N.comps.length N.parts.length N.ctxs.length;rw[ba,aX,bh,ai]at X O aj⊢;obtain⟨U,ah,l,t,B0⟩:=zfL w c 89 [.slice L.a1 nc L.c1,.slice L.a2 np L.c2,.slice L.a3 Z L.c3,pt,k,b];have bq:U.heap.size=w.heap.size+2:=by rw[←ah];simp
 obtain⟨i,aC⟩:=zvJ (U.alloc (.cells zP 50));have b1:Below U U i:=by rw[←aC];exact(zJ _ _).alloc (zF _) _
 have kR:Blk i (w.heap.size+2) (yB S14.P0 zfF) 50:=by rw[←aC,←bq];exact zfH U
 have t:=t.step b1;have l:=l.step b1;have B1:=zA B0 b1;clear ba aX bh ai B0 b1 aN ak an ae az hB af a4 bi hm am ao aw z M E J hP hN hp hy hk hs a7 aL bm aW aJ ad h1 h2 bw;obtain⟨bg,aS,au,aO,first,bj⟩:=c;unfold CV at O⊢;unfold zV at O l ah⊢;simp only at O ac l ah⊢;have bG:=kR.lt;have S:Cells i [(⟨w.heap.size+1,0,none⟩,.slice L.a1 nc L.c1),(⟨w.heap.size+1,1,none⟩,.slice L.a2 np L.c2),(⟨w.heap.size+1,2,none⟩,.slice L.a3 Z L.c3),(⟨w.heap.size+1,3,none⟩,pt),(⟨w.heap.size+1,4,none⟩,k),(⟨w.heap.size+1,5,none⟩,b),(⟨w,0,none⟩,bg),(⟨w,1,none⟩,aS),(⟨w,2,none⟩,au),(⟨w,3,none⟩,aO),(⟨w,4,none⟩,first),(⟨w,5,none⟩,bj)]:=⟨t.cell 0,t.cell 1,t.cell 2,t.cell 3,t.cell 4,t.cell 5,l.cell 0,l.cell 1,l.cell 2,l.cell 3,l.cell 4,l.cell 5,zT⟩;clear l;go_enter Tryz.func183,Tryz.ntmps183;go_wp2_with (first
  | (rw[ah])
  | (refine zaK 50 zP zdF by3 by3 ?_;first|rw[aC]|skip))
 refine zaO 7 1 (.read 0 (.read 2 (.read 3 (.two (.one 1 (.two (.one 4 (.one 5 (.one 6 .done))) (.one 5 (.one 4 (.one 6 .done))))) (.one 5 (.one 1 (.one 4 (.one 6 .done)))))))) _ _ o0P (fun K=>Below i i K∧Cells K [(⟨w.heap.size+1,0,none⟩,.slice L.a1 nc L.c1),(⟨w.heap.size+1,1,none⟩,.slice L.a2 np L.c2),(⟨w.heap.size+1,2,none⟩,.slice L.a3 Z L.c3),(⟨w.heap.size+1,3,none⟩,pt),(⟨w.heap.size+1,4,none⟩,k),(⟨w.heap.size+1,5,none⟩,b),(⟨w,0,none⟩,bg),(⟨w,1,none⟩,aS),(⟨w,2,none⟩,au),(⟨w,3,none⟩,aO),(⟨w,4,none⟩,first),(⟨w,5,none⟩,bj)]) zk (zU 7 _).symm zk zk zk zk (⟨(zJ _ _).drew,S⟩) (fun Y Q4 F4 hY hF=> ?_);simp only[Plan.map,ltc,ltz,ldc,ldz,zdG,zeF];repeat refine mpH ?_
 have f:Below i i i.drew:=(zJ _ _).drew;obtain⟨v,hv⟩:=zvJ i.drew;rw[hv]at f⊢;clear hv;apply share1 (F:=F4) (fun d G=>i.heap.size≤d∧Blk G d VP 50∧Below i i G)
 case b=>
  intro bz
  repeat' first
   | refine zbV ?_ ?_
   | (refine zfN (fun b=>.pointer (some ⟨b,0,none⟩)) [.slice none 0 0,.int .i64 0,.slice none 0 0,.int .i64 0,.int .i64 0,.int .i64 0,.slice none 0 0,.slice none 0 0,.int .i64 0,.int .i64 0,.int .i64 0,.int .i64 0,.slice none 0 0,.int .i64 0,.slice none 0 0,.slice none 0 0] 50 (by rw[hY];rfl) (by go_simp;first|done|fail) ?_;intro d v' a0 kN q;have zN:i.heap.size≤d:=by rw[←a0];exact f.size
      have f:=zA f q;clear q a0;refine⟨⟨f,Cells.step f S⟩,?_⟩;simp only[zvF])
   | (apply zbR (by rw[hY];rfl)
      ·go_simp;with_reducible exact⟨rfl,rfl⟩
      refine Calls.mono (X.out _ (zA B1 f)) ?_;rintro e v' ⟨rfl,q⟩;have f:=zA f q;(try have kN:=kN.step q);clear q;refine⟨_,rfl,⟨f,Cells.step f S⟩,?_⟩;simp only[zvF])
   | (apply zbR (by rw[hY];rfl)
      ·go_simp;with_reducible exact⟨rfl,rfl⟩
      refine Calls.mono (O.out _ (zA B1 f)) ?_;rintro e v' ⟨rfl,q⟩;have f:=zA f q;(try have kN:=kN.step q);clear q;refine⟨_,rfl,⟨f,Cells.step f S⟩,?_⟩;simp only[zvF])
   | (refine ps50 (.tmp 8) (.tmp 13) VP kN ?_ (yG some ap.out.symm) ap.out.symm bt.out;intro G ES gS sS;have u:Below i i G:=f.trans (yA gS zN f.size);refine⟨⟨u,Cells.step u S⟩,?_⟩;simp only[zvF];exact zaT (bz d G ⟨zN,ES,u⟩))
 intro d G hR;obtain⟨bI,E3,u⟩:=hR;refine hF.out _ _ (fun K hK=> ?_);clear hF hY f;have HK:=zC hK;clear hK;go_wp2_with fail;refine OnlyK.mk (HK.out _ _ ?_);have aH:=kR.step u;have a5:=t.step u;have B3:=zA B1 u;have aD:G.cell? ⟨w,2,none⟩=some (.int .i64 au):=(Cells.step u S).2.2.2.2.2.2.2.2.1;obtain⟨z,M,E,J⟩:=Hv.out;clear u kR t B1;go_wp2_with fail;refine(aA.out _).mono ?_;rintro e w4 ⟨rfl,P⟩;have E4:=E3.step P;have aU:=aH.step P;have aG:=a5.step P;have B4:=zA B3 P;have bu:=(P.cell (zE aD)).trans aD;have bx:=(E4.cell 0).trans z;clear E3 aH a5 B3 aD P;go_wp2_with fail;refine(ac.out _ B4).mono ?_;rintro e w5 ⟨a,cap,rfl,ax,a3,aa⟩;have E5:=E4.step aa;have bf:=aU.step aa;have a9:=aG.step aa;have B5:=zA B4 aa;have bB:=(E5.cell 0).trans z;have bC:=E5.free 0;have bH:d<w4.heap.size:=E4.lt;have I:=E5.set 0 (.slice a m cap);have ay:=bf.other d 0 (.slice a m cap) om;have C:=a9.other d 0 (.slice a m cap) om;have gA:=yZ w5 d 0 (.slice a m cap);have av:=a3.keptRow gA (fun g o e=>by have:=ax g o e;omega);have B6:=B5.trans (yA gA om B5.size);have bc:w5.heap.size≤(w5.setCell ⟨d,0,none⟩ (.slice a m cap)).heap.size:=gA.size;obtain⟨H,aV⟩:=zvJ (w5.setCell ⟨d,0,none⟩ (.slice a m cap));rw[aV]at I ay C av B6 bc;have a8:∀g o,a=some ⟨g,o,none⟩→w.heap.size+3≤g∧g≠d:=fun g o e=>by have:=ax g o e;omega
 obtain⟨bn,aK⟩:=zh2 av a8;clear E4 aU aG B4 bx bu aa ax a3 gA E5 bf a9 av a8 bc;have a6:H.cell? ⟨d,1,none⟩=some (.int .i64 sb):=(I.cell 1).trans (by rw[zgW om];exact M);have aQ:H.cell? ⟨d,2,none⟩=some (.slice y.a2 sl y.c2):=(I.cell 2).trans (by rw[zgW om];exact E);have aM:H.cell? ⟨d,3,none⟩=some (.int .i64 so):=(I.cell 3).trans (by rw[zgW om];exact J);have ag:zdM [(⟨w.heap.size+1,0,none⟩,.slice L.a1 nc L.c1),(⟨w.heap.size+1,1,none⟩,.slice L.a2 np L.c2),(⟨w.heap.size+1,2,none⟩,.slice L.a3 Z L.c3),(⟨w.heap.size+1,3,none⟩,pt),(⟨w.heap.size+1,4,none⟩,k),(⟨w.heap.size+1,5,none⟩,b),(⟨d,1,none⟩,sb),(⟨d,2,none⟩,.slice y.a2 sl y.c2),(⟨d,3,none⟩,so)] H.drew:=⟨C.cell 0,C.cell 1,C.cell 2,C.cell 3,C.cell 4,C.cell 5,a6,aQ,aM,zT⟩;clear a6 aQ aM z M E J C;go_wp2_with (first|(rw[aV])|fail);refine zbF 12 13 1 [(.p,[true]),(.r,[false,true]),(.p,[false,false,true]),(.r,[false,false,false,true,true]),(.p,[false,false,false,false,false,false,true]),(.e,[false,false,false,false,false,true]),(.e,[false,false,false,false,false,false,false,true]),(.p,[false,false,false,false,false,false,false,false,true,true,true,true]),(.l,[false,false,false,false,false,false,false,false,false,false,false,false,true])] _ _ (zdM [(⟨w.heap.size+1,0,none⟩,.slice L.a1 nc L.c1),(⟨w.heap.size+1,1,none⟩,.slice L.a2 np L.c2),(⟨w.heap.size+1,2,none⟩,.slice L.a3 Z L.c3),(⟨w.heap.size+1,3,none⟩,pt),(⟨w.heap.size+1,4,none⟩,k),(⟨w.heap.size+1,5,none⟩,b),(⟨d,1,none⟩,sb),(⟨d,2,none⟩,.slice y.a2 sl y.c2),(⟨d,3,none⟩,so)]) zk (zU 13 _).symm zk zk zk zk (ag) (fun Y Q4 F4 hY hF=> ?_);simp only[zeJ,lfc,lfn,ltc,ltz,ldc,ldz,zdY,zcV,zfO,lmc,lmn,lca,lna,lan];repeat first|refine muP ?_|refine muR ?_
 have be:Below H H H.drew:=(zJ _ _).drew;refine muC ?_;refine mnb be (aj.out _) fun u1 bo ab=> ?_;refine⟨_,rfl,Cells.step ab ag,?_⟩;simp only[zvF];repeat first|refine muP ?_|refine muR ?_
 refine muC ?_;refine(Q.out _ (zA B6 ab)).mono ?_;rintro e u2 ⟨V,rfl,aY,aP⟩;have R:=zA ab aP;obtain⟨h,j,rfl,hT,aq⟩:=aY.open aZ.out;have bD:=ab.size;have bF:=I.lt;unfold zcK;refine⟨_,rfl,Cells.step R ag,?_⟩;simp only[zvF];repeat first|refine muP ?_|refine muR ?_
 have E7:=I.step R;have bl:=ay.step R;have B7:=zA B6 R;have bb:=bn.out.step R;have bk:(VP.set 0 (.slice a m cap)).length=16:=by rw[yH];exact ap.out
 refine zfI 40 (.tmp 47) (.tmp 45) by3 (by rw[hY];rfl) d 1 #[B,.slice h r.length j] by3 by3 (E7.there14 (o:=1) (n:=2) (by rw[bk];decide)) zlC by4 ?_;simp only[zvF];have E8:=E7.setCells [B,.slice h r.length j] 1 (by rw[bk];exact(by decide:1+2≤16));rw[←aE.out a h cap j]at E8;have g8:=yL d [B,.slice h r.length j] 1 u2;have aR:=bl.keptRow g8 (by intro e;have:=zI e;omega);have aB:KepX (fun k=>k=d) u2 (u2.setCells d 1 [B,.slice h r.length j]):=KepX.row g8 (fun b e=>.inl (zI e).symm);have aF:=bb.kepX aB (fun g o e=>(aK.out g o e).2);have al:=hT.kepX aB (fun g o e=>by have:=aq g o e;show¬g=d;omega);have B8:=B7.trans (yA g8 om B7.size);have bd:Fr h (w.heap.size+3):=aq.mono om;obtain⟨u3,ar⟩:=zvJ (u2.setCells d 1 [B,.slice h r.length j]);rw[ar]at E8 aR aF al B8;have aI:u2.setCells d 1 (#[B,.slice h r.length j]:Array Value).toList=u3:=ar;rw[aI];obtain⟨bp,bv,br⟩:=zh3 aF al bd;clear I E7 ay bl B6 B7 bb g8 aB aF al bd aq hT aY aP bo R ab be ag ar aI;refine zcG (hF.out _ _ (fun K hK=> ?_));clear hF hY;go_wp2_with fail;refine mok hK ?_;clear hK;go_wp2_with (first
  | (refine ld50 (.tmp 8) E8 ?_)
  | (refine st50 (.tmp 6) (.tmp 48) (yB {p with ctrs:=T,sb:=B,sd:=r} {y with a1:=a,c1:=cap,a2:=h,c2:=j}) aR ?_;intro wL EL gL sL))
 have hL:=lv50 EL;refine rL2 hL ?_;refine⟨{y with a1:=a,c1:=cap,a2:=h,c2:=j},rfl,fun A hk=> ?_,B8.trans (yA gL om B8.size)⟩;have hX:KepX (fun k=>k<w.heap.size+3) _ A:=(KepX.row gL (fun b e=>.inl (by show b<_;have:=zI e;omega))).trans (hk.toX14.mono0 om);exact bs.out a h cap j A (bp.out.kepX hX (fun g o e=>by have:=(aK.out g o e).1;show¬g<_;omega)) (bv.out.kepX hX (fun g o e=>by have:=br.out g o e;show¬g<_;omega))
theorem rate14{c:S14.C}{k:Int}(h:c.kind=5∨c.kind=6)(a:S14.ok c k=true):1≤c.rate∧c.rate≤255:=by
 unfold S14.ok at a;rcases h with h|h
 ·rw[zG om,zG om,zG om,zG om,zG om,zQ h]at a;unfold S14.okMix at a;simp only[zS,S14.has_iff]at a;omega
 ·rw[zG om,zG om,zG om,zG om,zG om,zG om,zQ h]at a;unfold S14.okRefine at a;simp only[zS,S14.has_iff]at a;omega
theorem learnF_all{N:S14.N}{t:Nat}(u:GoodN N t)(ht:t<65536){bit:Int}(A:bit=0∨bit=1)(L:NLay)(w:World)(B:NIs N L w):zjD N L w (S14.outA N) (S14.learnA N bit) bit:=fun k c n a W K v=>by
 have D:=u.net;obtain⟨p,y,f,l,C,F,r,z,i,T,U⟩:=zsO B D n;have d:=S14.ok_is z;have x:=u.ps k c p n f;have Q:=S14.outs_in (zqG N L w B D) k (Nat.le_of_lt (List.getElem?_eq_some_iff.1 n).1);have m:=B.step K;have s:=yP (b:=N.part) om;have V:k<16:=by rw[←u.xl];exact r
 unfold S14.learnA S14.learnP ztN;rw[yS n,yS f];rcases d.kind with h|h|h|h|h|h|h
 ·rw[zQ h,zG om,zG om,zG om,zG om,zG om];exact(zhR N L k c _ rfl bit W m F p y f l).mono fun e M j=>⟨y,j.1,fun R _=>C.bare14 ((zcW (.inl h)).1 i),j.2⟩
 ·rw[zG om,zQ h,zQ h];exact ziR c N L k _ rfl p y c.bits.toNat bit W ((zdS h).1 i).1 m n f l r N.part.toNat s om (yP d.bits.1) (by have:=d.bits;omega) (okCtrs_iff.1 ((zdS h).1 i).2).1
 ·rw[zG om,zG om,zQ h,zG om,zQ h];obtain⟨H,Y,Z,J,S,O⟩:=x.hist h u.pt A;exact zqV c N L k _ rfl p y (S14.st N p) bit W m f l N.part.toNat s om om H om om J O ((zeH h).1 i).2
 ·rw[zG om,zG om,zG om,zQ h,zG om,zG om,zQ h];obtain⟨⟨⟨⟨q,j⟩,E⟩,X⟩,P⟩:=(zfP h).1 i;exact zqQ c N L k _ rfl p y bit W m f l (S12.bitE_ok ((S12.check_iff p.m).1 P) A (by have:=x.few;omega)) q
 ·rw[zG om,zG om,zG om,zG om,zQ h,zG om,zG om,zG om,zG om,zG om];exact(ziW N L k c _ rfl bit W m F p y f l).mono fun e M j=>⟨y,j.1,fun R _=>C.bare14 ((zcW (.inr h)).1 i),j.2⟩
 ·have G:=d.mix h;obtain⟨g,o,rfl,_⟩:=v (fun e=>by have q:=yG List.length e;rw[zR,S14.outs_length,List.length_nil]at q;omega);rw[zG om,zG om,zG om,zG om,zG om,zQ h,zG om,zG om,zG om,zQ h]
  exact zuM c N L k g o p y c.bits.toNat c.first.toNat c.second.toNat (S14.outs (S14.outA N) k) bit W m n f l r N.part.toNat s om (yP d.bits.1) (by have:=d.bits;omega) (yP G.1) (yP om) om om om (S14.outs_length _ _) v
   (x.mix h d.bits G Q) om (rate14 (.inl h) z) ((zhZ h).1 i).1.1.1
 ·have I:=zhB h z;obtain⟨g,o,rfl,_⟩:=v (fun e=>by have q:=yG List.length e;rw[zR,S14.outs_length,List.length_nil]at q;omega);rw[zG om,zG om,zG om,zG om,zG om,zG om,zG om,zG om,zG om,zG om,zQ h];obtain⟨⟨q,j⟩,E⟩:=(zdR h).1 i
  exact zpZ c N L k g o p y c.bits.toNat c.first.toNat (S14.outs (S14.outA N) k) bit W m n f l r N.part.toNat s om (yP d.bits.1) (by have:=d.bits;omega) (yP I.1) om (S14.outs_length _ _) v
   (x.refine h d.bits _) (by have:=(zkF E).1;omega) A (rate14 (.inr h) z) q
def NetE(E:Nat→Prop)(N:S14.N)(VS:List Value)(w:World):Prop:=∃L,VS=zaN N L∧∀W,KepX E w W→NIs N L W
theorem NetE.is{E:Nat→Prop}{N:S14.N}{a:List Value}{w:World}(h:NetE E N a w):∃L,a=zaN N L∧NIs N L w:=by
 obtain⟨L,e,h⟩:=h;exact⟨L,e,h w (KepX.refl _ _)⟩
theorem GoodN.opens{N:S14.N}{t:Nat}(h:GoodN N t)(w:World):ziX w N (S14.opened N):=
 have a:=S14.check_zero h.check
 zuI w N a.1 a.2.1 (S14.kinds_of h.check) h.len h.xl h.pt.1 h.pt.2
def S14.learnN(N:S14.N)(bit:Int):S14.N:=if S14.next N.part bit=1∨16≤S14.next N.part bit∧S14.next N.part bit≤31 then S14.opened (S14.learned N bit)else S14.learned N bit
theorem GoodN.learnN{N:S14.N}{t:Nat}(h:GoodN N t)(b:t<65536){bit:Int}(a:bit=0∨bit=1):GoodN (S14.learnN N bit) (t+1):=by
 unfold S14.learnN;split
 ·exact(h.learn b a).open_
 ·exact h.learn b a
theorem learn_all{N:S14.N}{t:Nat}(a:GoodN N t)(f:t<65536){bit:Int}(d:bit=0∨bit=1){E:Nat→Prop}(i:List Value)(w:World)(n:NetE E N i w) :
 Calls Tryz.prog 6 #[.agg i.toArray,bit] w fun e c=>∃g,e = .returned (.tuple #[.agg g.toArray,.int .i64 0])∧NetE (fun k=>k<w.heap.size) (S14.learnN N bit) g c∧Below w w c:=by
 obtain⟨L,rfl,b⟩:=n.is;refine(zlA N (S14.learnN N bit) L (S14.outA N) (S14.learnA N bit) bit w b (zpV N L w b) a.net (zqG N L w b a.net) d (learnF_all a f d L w b) (fun h=> ?_) (fun h=> ?_)).mono fun e c ⟨o,m,j,l⟩=>⟨_,m,⟨o,rfl,j⟩,l⟩
 ·have e:S14.learnN N bit=S14.opened (S14.learned N bit):=zQ h;rw[e];exact(a.learn f d).opens w
 ·exact zG h
