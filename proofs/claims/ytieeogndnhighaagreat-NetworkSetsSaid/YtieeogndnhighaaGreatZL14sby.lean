/- A part of the proof of L14s. No condition. -/
import Derived.Test.YtieeogndnhighaaGreatZL14sbi
import Derived.Test.YtieeogndnhighaaGreatZL14sbr
import Derived.Test.YtieeogndnhighaaGreatZL14sbv
set_option linter.all false
set_option maxRecDepth 100000
set_option maxHeartbeats 200000
namespace Go.Proofs.YtieeogndnhighaaGreat
open Go.RowKit
def S14.st(N:S14.N)(p:S14.P):Nat:=(S10.getN p.sb p.sd p.slot (S14.node N.part.toNat:Nat)).toNat
theorem zkY{c:S14.C}{p:S14.P}{pt:Int}(h:c.kind=0∨c.kind=4):S14.right c p pt=true↔S14.bare p=true:=by
 unfold S14.right;rcases h with h|h
 ·rw[zY h]
 ·rw[zR (by omega),zR (by omega),zR (by omega),zR (by omega),zY h]
theorem right_direct{c:S14.C}{p:S14.P}{pt:Int}(h:c.kind=1):S14.right c p pt=true↔S14.bare {p with ctrs:=[]}=true∧S14.okCtrs p.ctrs (2^c.bits.toNat) c.limit=true:=by
 unfold S14.right;rw[zR (by omega),zY h,yE]
theorem ziD{c:S14.C}{p:S14.P}{pt:Int}(h:c.kind=2):S14.right c p pt=true↔(((S14.okCtrs p.ctrs 215 c.limit=true∧p.sb=c.bits)∧S10.check p.sb p.sd=0)∧(0≤p.slot∧p.slot≤2^c.bits.toNat-1))∧S14.bare {p with ctrs:=[],sb:=0,sd:=[],slot:=0}=true:=by
 unfold S14.right;rw[zR (by omega),zR (by omega),zY h];simp only[yE,yN,beq_iff_eq,S14.has_iff]
theorem right_match{c:S14.C}{p:S14.P}{pt:Int}(h:c.kind=3):S14.right c p pt=true↔(((S14.bare {p with m:=S14.zM}=true∧p.m.bits=c.bits)∧p.m.least=c.limit)∧p.m.part=pt)∧S12.check p.m=0:=by
 unfold S14.right;rw[zR (by omega),zR (by omega),zR (by omega),zY h];simp only[yE,yN,beq_iff_eq]
theorem right_mix{c:S14.C}{p:S14.P}{pt:Int}(h:c.kind=5):S14.right c p pt=true↔((S14.bare {p with mi:=0,mw:=[]}=true∧p.mi=c.second-c.first+1)∧(p.mw.length:Int)=2^c.bits.toNat)∧S13.check 16 p.mi p.mw=0:=by
 unfold S14.right;rw[zR (by omega),zR (by omega),zR (by omega),zR (by omega),zR (by omega),zY h];simp only[yE,yN,beq_iff_eq]
theorem right_refine{c:S14.C}{p:S14.P}{pt:Int}(h:c.kind=6):S14.right c p pt=true↔(S14.bare {p with ac:=[]}=true∧(p.ac.length:Int)=33*2^c.bits.toNat)∧S11.check p.ac=0:=by
 unfold S14.right;rw[zR (by omega),zR (by omega),zR (by omega),zR (by omega),zR (by omega),zR (by omega),zY h];simp only[yE,yN]
theorem okCtrs_iff{l:List (Int×Int)}{n:Nat}{limit:Int}:S14.okCtrs l n limit=true↔l.length=n∧∀c∈l,S08.check c.1 c.2 limit=0:=by
 unfold S14.okCtrs;simp only[yE,yN,Bool.not_eq_true',List.any_eq_false,Decidable.not_not]
theorem check_good{bits:Int}{xs:List Int}(h:S10.check bits xs=0)(hok:OK8 xs):∃n:Nat,bits=n∧Good n xs:=by
 obtain⟨n,rfl,hn,hl,hb⟩:=S10.correct h;refine⟨n,rfl,hn,hl,hok,fun j hj hz=> ?_⟩;rw[S10.bad_eq hl]at hb;unfold S10.badP at hb;rw[List.any_eq_false]at hb;have h2:=hb j (List.mem_range.2 (by omega));unfold S10.bad2 at h2;rw[zO hz,zaY,yN]at h2;omega
structure GoodP(t:Nat)(c:S14.C)(p:S14.P)(pt:Int):Prop where
 right:S14.right c p pt=true
 tab:OK8 p.sd
 byt:S12.Byt p.m.bytes
 few:p.m.bytes.length≤t
structure GoodN(N:S14.N)(t:Nat):Prop where
 check:S14.check N.comps=0
 len:N.parts.length=N.comps.length
 xl:N.ctxs.length=16
 pt:1≤N.part∧N.part≤255
 ps:∀(k:Nat) (c:S14.C) (p:S14.P),N.comps[k]? = some c→N.parts[k]? = some p→GoodP t c p N.part
theorem GoodP.open_{t:Nat}{N:S14.N}{k:Nat}{c:S14.C}{p:S14.P}(h:GoodP t c p N.part)(hc:N.comps[k]? = some c)(hbits:0≤c.bits∧c.bits≤16):GoodP t c (S14.openP N k p) N.part:=by
 unfold S14.openP;rw[hc];by_cases hk:c.kind=2
 ·rw[zY (by rw[Option.map_some,hk])];obtain⟨⟨⟨⟨h1,h2⟩,h3⟩,h4⟩,h5⟩:=(ziD hk).1 h.right;obtain⟨n,hn,hG⟩:=check_good h3 h.tab;have hcb:c.bits.toNat=n:=by omega
  have hh:=S14.hash_lt (N.ctxs.getD k 0) N.part.toNat;have hX:=hG.openX _ hh;have hL:=hG.openN_lt (S14.hash (N.ctxs.getD k 0) N.part.toNat);have hB:=hG.openB;rw[←hn]at hX hL hB;have h2n:((2^n:Nat):Int)=2^n:=by simp
  unfold S14.open1;refine⟨(ziD hk).2 ⟨⟨⟨⟨h1,?_⟩,?_⟩,?_⟩,h5⟩,hX.ok,h.byt,h.few⟩
  ·show S10.openB _ _=_;rw[hB];exact h2
  ·show S10.check (S10.openB _ _) _=0;rw[hB,hn];rw[hn]at hX;exact hX.check
  ·show 0≤((S10.openN _ _ _:Nat):Int)∧((S10.openN _ _ _:Nat):Int)≤_;rw[hcb];omega
 ·rw[zR (by rw[Option.map_some];exact fun e=>hk (zL e))];exact h
theorem openK_get{N:S14.N}:∀(n j:Nat),(S14.openK N n)[j]? = if j<n then(N.parts[j]?).map (S14.openP N j)else N.parts[j]?
 | 0,j=>by rw[zR (by omega)];rfl
 | n+1,j=>by
   have ih:=openK_get (N:=N) n;rw[S14.openK];have hn:=ih n;rw[zR (by omega)]at hn;split
   ·rename_i p hp
    rw[List.getElem?_set];have hl:=(List.getElem?_eq_some_iff.1 hp).1;by_cases hj:n=j
    ·subst hj;rw[zY rfl,zY hl,zY (by omega),←hn,hp];rfl
    ·rw[zR hj,ih j];by_cases h2:j<n
     ·rw[zY h2,zY (by omega)]
     ·rw[zR h2,zR (by omega)]
   ·rename_i hp
    rw[ih j];by_cases h2:j<n
    ·rw[zY h2,zY (by omega)]
    ·by_cases hj:j=n
     ·subst hj;rw[zR h2,zY (by omega),←hn,hp];rfl
     ·rw[zR h2,zR (by omega)]
theorem GoodN.open_{N:S14.N}{t:Nat}(h:GoodN N t):GoodN (S14.opened N) t where
 check:=h.check
 len:=(S14.openK_length N _).trans h.len
 xl:=h.xl
 pt:=h.pt
 ps:=fun k c p hc hp=>by
  have hp:(S14.openK N N.comps.length)[k]? = some p:=hp;have hc:N.comps[k]? = some c:=hc;have hk:=(List.getElem?_eq_some_iff.1 hc).1;rw[openK_get,zY hk]at hp;obtain⟨q,hq,rfl⟩:=Option.map_eq_some_iff.1 hp;exact(h.ps k c q hc hq).open_ hc (S14.ok_is ((S14.check_zero h.check).2.2 k c hc)).bits
def S14.withCtxs(N:S14.N)(l:List Nat):S14.N:=⟨N.comps,N.parts,l,N.part⟩
theorem GoodN.ctxs{N:S14.N}{t:Nat}(h:GoodN N t){l:List Nat}(hl:l.length=16):GoodN (S14.withCtxs N l) t:=⟨h.check,h.len,hl,h.pt,h.ps⟩
def NetE(E:Nat→Prop)(N:S14.N)(VS:List Value)(w:World):Prop:=∃L,VS=zaI N L∧∀W,KepX E w W→NIs N L W
theorem NetE.len{E:Nat→Prop}{N:S14.N}{VS:List Value}{w:World}(h:NetE E N VS w):VS.length=4:=by obtain⟨L,rfl,_⟩:=h;rfl
theorem GoodN.opens{N:S14.N}{t:Nat}(h:GoodN N t)(w:World):zeD w N (S14.opened N):=
 have hz:=S14.check_zero h.check
 zoJ w N hz.1 hz.2.1 (S14.kinds_of h.check) h.len h.xl h.pt.1 h.pt.2
