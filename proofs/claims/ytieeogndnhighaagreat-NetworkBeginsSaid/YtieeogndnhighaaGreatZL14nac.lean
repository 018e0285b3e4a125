/- A part of the proof of L14n. No condition. -/
import Derived.LoadGo2
set_option linter.all false
set_option maxRecDepth 100000
set_option maxHeartbeats 200000
namespace Go.Proofs.YtieeogndnhighaaGreat.S14
structure C where
 kind:Int
 bits:Int
 limit:Int
 rate:Int
 first:Int
 second:Int
def has(n lo hi:Int):Bool:=decide (lo≤n∧n≤hi)
def only(c:C)(b l r f s:Bool):Bool:=(b||c.bits==0)&&(l||c.limit==0)&&(r||c.rate==0)&&(f||c.first==0)&&(s||c.second==0)
def ctx(c:C):Bool:=only c true true false false false&&decide (c.bits≤16)
def okConst(c:C):Bool:=only c false true false false false&&has c.limit 1 4095
def okDirect(c:C):Bool:=only c true true false false false&&has c.bits 0 16&&has c.limit 1 1023
def okMatch(c:C):Bool:=only c true true false false false&&has c.bits 1 16&&has c.limit 1 32
def okAverage(c:C)(k:Int):Bool:=only c false true false true true&&has c.limit 0 256&&has c.first 0 (k-1)&&has c.second 0 (k-1)
def okMix(c:C)(k:Int):Bool:=only c true false true true true&&has c.bits 0 16&&has c.rate 1 255&&has c.first 0 (k-1)&&has c.second c.first (k-1)
def okRefine(c:C)(k:Int):Bool:=only c true false true true false&&has c.bits 0 16&&has c.rate 1 255&&has c.first 0 (k-1)
def ok(c:C)(k:Int):Bool:=
 if c.kind=0 then okConst c else if c.kind=1 then okDirect c else if c.kind=2 then okDirect c else if c.kind=3 then okMatch c
 else if c.kind=4 then okAverage c k else if c.kind=5 then okMix c k else if c.kind=6 then okRefine c k else false
def allOk(l:List C):Bool:=(List.range l.length).all fun i=>ok (l.getD i ⟨0,0,0,0,0,0⟩) (i:Int)
def check(l:List C):Int:=if l.length<1∨16<l.length then 6 else if allOk l=true then 0 else 22
end Go.Proofs.YtieeogndnhighaaGreat.S14
namespace Go.Proofs.YtieeogndnhighaaGreat.S14
def m1:Nat:=2654435769
def m2:Nat:=2246822519
def hash0(c n:Nat):Nat:=(c+n*m1)%4294967296*m2%4294967296
def hash(c n:Nat):Nat:=hash0 c n ^^^ hash0 c n/32768
theorem hash0_lt(c n:Nat):hash0 c n<4294967296:=Nat.mod_lt _ (by omega)
theorem hash_lt(c n:Nat):hash c n<4294967296:=by
 have h1:=hash0_lt c n;have h2:hash0 c n/32768<4294967296:=Nat.lt_of_le_of_lt (Nat.div_le_self _ _) h1;exact Nat.xor_lt_two_pow (n:=32) h1 h2
def index(c n bits:Nat):Nat:=hash c n/2^(32-bits)
theorem index_lt(c n:Nat){bits:Nat}(h:bits≤16):index c n bits<2^bits:=by
 unfold index;rw[Nat.div_lt_iff_lt_mul (Nat.two_pow_pos _),←Nat.pow_add,show bits+(32-bits)=32 by omega];exact hash_lt c n
end Go.Proofs.YtieeogndnhighaaGreat.S14
namespace Go.Proofs.YtieeogndnhighaaGreat.S08
def check(p n limit:Int):Int:=
 if limit<1∨1023<limit then 2 else if p<0∨65535<p∨n<0∨limit<n then 3 else 0
def predict(p n:Int):Int:=if p<0∨65535<p∨n<0 then 0 else max (p/16) 1
def step(p n bit:Int):Int:=p+(2*(65535*bit-p)).tdiv (2*n+3)
def updateE(p n bit limit:Int):Int:=if check p n limit≠0 then check p n limit else if bit≠0∧bit≠1 then 1 else 0
def updateP(p n bit limit:Int):Int:=if updateE p n bit limit≠0 then 0 else step p n bit
def updateN(p n bit limit:Int):Int:=if updateE p n bit limit≠0 then 0 else min (n+1) limit
def updateV(p n bit limit:Int):Value:=.tuple #[.agg #[.int .i64 (updateP p n bit limit),.int .i64 (updateN p n bit limit)],.int .i64 (updateE p n bit limit)]
theorem updateV_err{p n bit limit:Int}(h:updateE p n bit limit≠0):updateV p n bit limit = .tuple #[.agg #[.int .i64 0,.int .i64 0],.int .i64 (updateE p n bit limit)]:=by
 unfold updateV updateP updateN;rw[if_pos h,if_pos h]
theorem updateV_ok{p n bit limit:Int}(h:updateE p n bit limit=0):updateV p n bit limit = .tuple #[.agg #[.int .i64 (step p n bit),.int .i64 (min (n+1) limit)],.int .i64 0]:=by
 unfold updateV updateP updateN;rw[if_neg (by omega),if_neg (by omega),h]
theorem check_ok{p n limit:Int}(h:check p n limit=0):1≤limit∧limit≤1023∧0≤p∧p≤65535∧0≤n∧n≤limit:=by
 unfold check at h;split at h
 ·omega
 ·split at h<;>omega
theorem tdiv_bounds(a d:Int)(hd:0<d):(0≤a→0≤a.tdiv d∧a.tdiv d*d≤a)∧(a≤0→a.tdiv d≤0∧a≤a.tdiv d*d):=by
 constructor
 ·intro h;rw[Int.tdiv_eq_ediv_of_nonneg h];exact⟨Int.ediv_nonneg h (by omega),by rw[Int.mul_comm];exact Int.mul_ediv_self_le (by omega)⟩
 ·intro h;have e:a.tdiv d = -((-a)/d):=by rw[←Int.tdiv_eq_ediv_of_nonneg (by omega),Int.neg_tdiv,Int.neg_neg]
  rw[e];have h1:0≤(-a)/d:=Int.ediv_nonneg (by omega) (by omega);have h2:d*((-a)/d)≤ -a:=Int.mul_ediv_self_le (by omega);refine⟨by omega,?_⟩;rw[Int.neg_mul,Int.mul_comm];omega
end Go.Proofs.YtieeogndnhighaaGreat.S08
namespace Go.Proofs.YtieeogndnhighaaGreat.S12
def eqAt(b:List Int)(p n:Nat):Bool:=b.getD (p-1-n) 0==b.getD (b.length-1-n) 0
def rep(b:List Int)(p:Nat):Nat:=((List.range (min 255 p)).takeWhile (eqAt b p)).length
theorem takeWhile_range(f:Nat→Bool)(m k:Nat)(hk:k≤m)(h1:∀i,i<k→f i=true)(h2:k=m∨f k=false):((List.range m).takeWhile f).length=k:=by
 induction m generalizing k f with
 | zero=>obtain rfl:k=0:=by omega
         rfl
 | succ m ih=>
   rw[List.range_succ_eq_map,List.takeWhile_cons];cases k with
   | zero=>rcases h2 with h2|h2
           ·omega
           ·rw[h2];rfl
   | succ k=>
     rw[h1 0 (by omega)];simp only[if_true,List.length_cons,List.takeWhile_map,List.length_map];rw[ih (f∘Nat.succ) k (by omega) (fun i hi=>h1 (i+1) (by omega)) (by rcases h2 with h2|h2;exact .inl (by omega);exact .inr h2)]
theorem rep_of{b:List Int}{p k:Nat}(hk:k≤min 255 p)(h1:∀i,i<k→eqAt b p i=true)(h2:k=min 255 p∨eqAt b p k=false):rep b p=k:=takeWhile_range _ _ _ hk h1 h2
def expFrom(x:Nat)(pt:Int):Nat→Option Nat
 | 0=>none
 | k+1=>if((256+x)/2^(k+1):Nat)=pt then some ((256+x)/2^k%2)else expFrom x pt k
def exp(x:Nat)(pt:Int):Option Nat:=expFrom x pt 8
structure M where
 bits:Int
 least:Int
 heads:List Int
 bytes:List Int
 at_:Int
 len:Int
 part:Int
 bit:Int
 ctrs:List (Int×Int)
def form(m:M):Bool:=decide (m.heads.length=2^m.bits.toNat)&&decide (m.ctrs.length=16)&&decide (1≤m.part∧m.part≤255)
def far(m:M):Bool:=m.heads.any fun h=> !decide (0≤h∧h≤m.bytes.length)
def bad(m:M):Bool:=m.ctrs.any fun c=>S08.check c.1 c.2 255 != 0
def matched(m:M):Bool:=
 if m.len=0 then decide (m.at_=0)&&decide (m.bit=2)
 else decide (1≤m.len∧m.len≤255)&&decide (m.len≤m.at_∧m.at_≤(m.bytes.length:Int)-1)&&decide (m.len≤(rep m.bytes m.at_.toNat:Int)) &&
  (match exp (m.bytes.getD m.at_.toNat 0).toNat m.part with|some b=>decide ((b:Int)=m.bit)|none=>false)
def check(m:M):Int:=
 if¬(1≤m.bits∧m.bits≤16)∨¬(1≤m.least∧m.least≤32)then 2
 else if 65536<m.bytes.length then 5
 else if form m=false then 3
 else if far m=true∨bad m=true∨matched m=false then 3 else 0
end Go.Proofs.YtieeogndnhighaaGreat.S12
namespace Go.Proofs.YtieeogndnhighaaGreat.S12
def factor:Nat:=2654435761
def hash(b:List Int):Nat:=b.foldl (fun h (x:Int)=>(h+x.toNat+1)*factor%4294967296) 0
def idx(b:List Int)(bits least:Int):Nat:=hash (b.drop (b.length-least.toNat))/2^(32-bits.toNat)
def found(m:M):Bool:=decide (m.len=0)&&decide (0<m.heads.getD (idx m.bytes m.bits m.least) 0)&&decide (m.least≤(rep m.bytes (m.heads.getD (idx m.bytes m.bits m.least) 0).toNat:Int))
structure WF(m:M):Prop where
 bits:1≤m.bits∧m.bits≤16
 least:1≤m.least∧m.least≤32
 few:m.bytes.length≤65536
 heads:m.heads.length=2^m.bits.toNat
 ctrs:m.ctrs.length=16
 part:1≤m.part∧m.part≤255
 head:∀h∈m.heads,0≤h∧h≤m.bytes.length
 ctr:∀c∈m.ctrs,S08.check c.1 c.2 255=0
 mat:matched m=true
theorem check_iff(m:M):check m=0↔WF m:=by
 have hf:far m=false↔∀h∈m.heads,0≤h∧h≤m.bytes.length:=by
  unfold far;rw[List.any_eq_false];simp
 have hb:bad m=false↔∀c∈m.ctrs,S08.check c.1 c.2 255=0:=by
  unfold bad;rw[List.any_eq_false];simp
 have hfo:form m=true↔m.heads.length=2^m.bits.toNat∧m.ctrs.length=16∧1≤m.part∧m.part≤255:=by unfold form;simp[and_assoc]
 constructor
 ·intro h;unfold check at h;split at h
  ·cases h
  ·rename_i h1
   split at h
   ·cases h
   ·rename_i h2
    split at h
    ·cases h
    ·rename_i h3
     split at h
     ·cases h
     ·rename_i h4
      have h3':form m=true:=by cases e:form m<;>simp_all
      obtain⟨a,b,c⟩:=hfo.1 h3';refine⟨by omega,by omega,by omega,a,b,c,hf.1 (by cases e:far m<;>simp_all),hb.1 (by cases e:bad m<;>simp_all),by cases e:matched m<;>simp_all⟩
 ·intro h;unfold check;have:=h.bits;have:=h.least;have:=h.few;rw[if_neg (by omega),if_neg (by omega),if_neg (by rw[hfo.2 ⟨h.heads,h.ctrs,h.part⟩];simp),if_neg (by rw[hf.2 h.head,hb.2 h.ctr,h.mat];simp)]
theorem hash_lt(b:List Int):hash b<4294967296:=by
 have key:∀(b:List Int) (h:Nat),h<4294967296→b.foldl (fun h (x:Int)=>(h+x.toNat+1)*factor%4294967296) h<4294967296:=fun b=>by
  induction b with
  | nil=>exact fun h hh=>hh
  | cons x xs ih=>exact fun h _=>ih _ (Nat.mod_lt _ (by omega))
 exact key b 0 (by omega)
theorem exp_at{x pt n:Nat}(hx:x<256)(hn:n≤7)(h1:2^n≤pt)(h2:pt<2^(n+1)):exp x (pt:Int)=if(256+x)/2^(8-n)=pt then some (x/2^(7-n)%2)else none:=by
 have key:∀k,k≤8→expFrom x (pt:Int) k=if 8-n≤k∧(256+x)/2^(8-n)=pt then some (x/2^(7-n)%2)else none:=by
  intro k;induction k with
  | zero=>intro _;rw[if_neg (by omega)];rfl
  | succ k ih=>
    intro hk;have hi:=ih (by omega);unfold expFrom;by_cases hkn:k=7-n
    ·subst hkn;rw[show 7-n+1=8-n by omega];by_cases he:(256+x)/2^(8-n)=pt
     ·rw[if_pos (by exact_mod_cast he),if_pos ⟨Nat.le_refl _,he⟩]
      congr 1
      have:(256+x)/2^(7-n)=2^(n+1)+x/2^(7-n):=by
       have e:256=2^(n+1)*2^(7-n):=by rw[←Nat.pow_add,show n+1+(7-n)=8 by omega]
       rw[e,Nat.add_comm,Nat.add_mul_div_right _ _ (Nat.two_pow_pos _),Nat.add_comm]
      rw[this,Nat.pow_succ];omega
     ·rw[if_neg (by exact_mod_cast he),if_neg (by omega),hi,if_neg (by omega)]
    ·have hne:¬(256+x)/2^(k+1)=pt:=by
      intro he;have p1:2^(7-k)≤(256+x)/2^(k+1):=by
       rw[Nat.le_div_iff_mul_le (Nat.two_pow_pos _),←Nat.pow_add,show 7-k+(k+1)=8 by omega];omega
      have p2:(256+x)/2^(k+1)<2^(8-k):=by
       rw[Nat.div_lt_iff_lt_mul (Nat.two_pow_pos _),←Nat.pow_add,show 8-k+(k+1)=9 by omega];omega
      rw[he]at p1 p2;have q1:7-k<n+1:=(Nat.pow_lt_pow_iff_right (by omega:1<2)).1 (Nat.lt_of_le_of_lt p1 h2);have q2:n<8-k:=(Nat.pow_lt_pow_iff_right (by omega:1<2)).1 (Nat.lt_of_le_of_lt h1 p2);omega
     rw[if_neg (by exact_mod_cast hne),hi];by_cases hc:8-n≤k
     ·simp only[hc,true_and,show 8-n≤k+1 by omega]
     ·rw[if_neg (by omega),if_neg (by omega)]
 have:=key 8 (by omega);unfold exp;rw[this];simp only[show 8-n≤8 by omega,true_and]
end Go.Proofs.YtieeogndnhighaaGreat.S12
namespace Go.Proofs.YtieeogndnhighaaGreat.S12
theorem getD_in{α:Type}(l:List α)(d:α){i:Nat}(hi:i<l.length):l.getD i d=l[i]:=by rw[List.getD,List.getElem?_eq_getElem hi];rfl
theorem getD_out{α:Type}(l:List α)(d:α){i:Nat}(hi:l.length≤i):l.getD i d=d:=by rw[List.getD,List.getElem?_eq_none hi];rfl
def Byt(l:List Int):Prop:=∀x∈l,0≤x∧x<256
theorem Byt.at{l:List Int}(h:Byt l)(i:Nat):(l.getD i 0).toNat<256:=by
 by_cases hi:i<l.length
 ·rw[getD_in _ _ hi];have:=h _ (List.getElem_mem hi);omega
 ·rw[getD_out _ _ (by omega)];decide
theorem Byt.get{l:List Int}(h:Byt l)(i:Nat):0≤l.getD i 0:=by
 by_cases hi:i<l.length
 ·rw[getD_in _ _ hi];have:=h _ (List.getElem_mem hi);omega
 ·rw[getD_out _ _ (by omega)];decide
structure Mat(m:M):Prop where
 len:1≤m.len∧m.len≤255
 at_:m.len≤m.at_∧m.at_≤(m.bytes.length:Int)-1
 rep:m.len≤(rep m.bytes m.at_.toNat:Int)
 exp:∃b:Nat,exp (m.bytes.getD m.at_.toNat 0).toNat m.part=some b∧m.bit=b
theorem matched_iff(m:M):matched m=true↔(m.len=0∧m.at_=0∧m.bit=2)∨Mat m:=by
 constructor
 ·intro h;unfold matched at h;split at h
  ·rename_i h0
   simp at h;exact .inl ⟨h0,h.1,h.2⟩
  ·rename_i h0
   simp only[Bool.and_eq_true,decide_eq_true_eq]at h;obtain⟨⟨⟨h1,h2⟩,h3⟩,h4⟩:=h;refine .inr ⟨h1,h2,h3,?_⟩;split at h4
   ·rename_i b hb
    exact⟨b,hb,by simp at h4;exact h4.symm⟩
   ·cases h4
 ·rintro(⟨h0,h1,h2⟩|h)
  ·unfold matched;rw[if_pos h0];simp[h1,h2]
  ·have:=h.len;unfold matched;rw[if_neg (by omega)];obtain⟨b,hb,he⟩:=h.exp;rw[hb];have h1:=h.len;have h2:=h.at_;have h3:=h.rep;simp[h1,h2,h3,he]
end Go.Proofs.YtieeogndnhighaaGreat.S12
namespace Go.Proofs.YtieeogndnhighaaGreat.S12
def start(bits least:Int):M:=⟨bits,least,List.replicate (2^bits.toNat) 0,[],0,0,1,2,List.replicate 16 (32768,0)⟩
structure Fed(bits least:Int)(bs:List Int)(m:M):Prop where
 wf:WF m
 bits:m.bits=bits
 least:m.least=least
 bytes:m.bytes=bs
 part:m.part=1
 long:m.len=0∨m.least≤m.len
theorem start_wf{bits least:Int}(h1:1≤bits∧bits≤16)(h2:1≤least∧least≤32):Fed bits least [] (start bits least):=by
 refine⟨⟨h1,h2,by simp[start],by simp[start],by simp[start],by simp[start],?_,?_,?_⟩,rfl,rfl,rfl,rfl,.inl rfl⟩
 ·intro x hx;rw[List.eq_of_mem_replicate hx];simp[start]
 ·intro c hc;rw[List.eq_of_mem_replicate hc];rfl
 ·rw[matched_iff];exact .inl ⟨rfl,rfl,rfl⟩
end Go.Proofs.YtieeogndnhighaaGreat.S12
namespace Go.Proofs.YtieeogndnhighaaGreat.S12
end Go.Proofs.YtieeogndnhighaaGreat.S12
namespace Go.Proofs.YtieeogndnhighaaGreat.S12
end Go.Proofs.YtieeogndnhighaaGreat.S12
