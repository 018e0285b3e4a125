/- A part of the proof of L15. No condition. -/
import Derived.LoadGo2
set_option linter.all false
set_option maxRecDepth 100000
set_option maxHeartbeats 200000
namespace Go.Proofs.YtahaacfikalheaaGreat.S14
structure C where
 kind:Int
 bits:Int
 limit:Int
 rate:Int
 first:Int
 second:Int
def has(n lo hi:Int):Bool:=decide (lo≤n∧n≤hi)
def only(c:C)(b l r f s:Bool):Bool:=(b||c.bits==0)&&(l||c.limit==0)&&(r||c.rate==0)&&(f||c.first==0)&&(s||c.second==0)
def ctx(c:C):Bool:=only c true true false false false&&decide (c.bits≤16)
def okConst(c:C):Bool:=only c false true false false false&&has c.limit 1 4095
def okDirect(c:C):Bool:=only c true true false false false&&has c.bits 0 16&&has c.limit 1 1023
def okMatch(c:C):Bool:=only c true true false false false&&has c.bits 1 16&&has c.limit 1 32
def okAverage(c:C)(k:Int):Bool:=only c false true false true true&&has c.limit 0 256&&has c.first 0 (k-1)&&has c.second 0 (k-1)
def okMix(c:C)(k:Int):Bool:=only c true false true true true&&has c.bits 0 16&&has c.rate 1 255&&has c.first 0 (k-1)&&has c.second c.first (k-1)
def okRefine(c:C)(k:Int):Bool:=only c true false true true false&&has c.bits 0 16&&has c.rate 1 255&&has c.first 0 (k-1)
def ok(c:C)(k:Int):Bool:=
 if c.kind=0 then okConst c else if c.kind=1 then okDirect c else if c.kind=2 then okDirect c else if c.kind=3 then okMatch c
 else if c.kind=4 then okAverage c k else if c.kind=5 then okMix c k else if c.kind=6 then okRefine c k else false
def allOk(l:List C):Bool:=(List.range l.length).all fun i=>ok (l.getD i ⟨0,0,0,0,0,0⟩) (i:Int)
def check(l:List C):Int:=if l.length<1∨16<l.length then 6 else if allOk l=true then 0 else 22
end Go.Proofs.YtahaacfikalheaaGreat.S14
namespace Go.Proofs.YtahaacfikalheaaGreat.S14
def m1:Nat:=2654435769
def m2:Nat:=2246822519
def hash0(c n:Nat):Nat:=(c+n*m1)%4294967296*m2%4294967296
def hash(c n:Nat):Nat:=hash0 c n ^^^ hash0 c n/32768
theorem hash0_lt(c n:Nat):hash0 c n<4294967296:=Nat.mod_lt _ (by omega)
theorem hash_lt(c n:Nat):hash c n<4294967296:=by
 have h1:=hash0_lt c n;have h2:hash0 c n/32768<4294967296:=Nat.lt_of_le_of_lt (Nat.div_le_self _ _) h1;exact Nat.xor_lt_two_pow (n:=32) h1 h2
def index(c n bits:Nat):Nat:=hash c n/2^(32-bits)
theorem index_lt(c n:Nat){bits:Nat}(h:bits≤16):index c n bits<2^bits:=by
 unfold index;rw[Nat.div_lt_iff_lt_mul (Nat.two_pow_pos _),←Nat.pow_add,show bits+(32-bits)=32 by omega];exact hash_lt c n
def node(p:Nat):Nat:=if p<16 then p else 2^(p.log2-4)+p%2^(p.log2-4)
end Go.Proofs.YtahaacfikalheaaGreat.S14
namespace Go.Proofs.YtahaacfikalheaaGreat.S08
def check(p n limit:Int):Int:=
 if limit<1∨1023<limit then 2 else if p<0∨65535<p∨n<0∨limit<n then 3 else 0
def predict(p n:Int):Int:=if p<0∨65535<p∨n<0 then 0 else max (p/16) 1
def step(p n bit:Int):Int:=p+(2*(65535*bit-p)).tdiv (2*n+3)
def updateE(p n bit limit:Int):Int:=if check p n limit≠0 then check p n limit else if bit≠0∧bit≠1 then 1 else 0
def updateP(p n bit limit:Int):Int:=if updateE p n bit limit≠0 then 0 else step p n bit
def updateN(p n bit limit:Int):Int:=if updateE p n bit limit≠0 then 0 else min (n+1) limit
def updateV(p n bit limit:Int):Value:=.tuple #[.agg #[.int .i64 (updateP p n bit limit),.int .i64 (updateN p n bit limit)],.int .i64 (updateE p n bit limit)]
theorem updateV_err{p n bit limit:Int}(h:updateE p n bit limit≠0):updateV p n bit limit = .tuple #[.agg #[.int .i64 0,.int .i64 0],.int .i64 (updateE p n bit limit)]:=by
 unfold updateV updateP updateN;rw[if_pos h,if_pos h]
theorem updateV_ok{p n bit limit:Int}(h:updateE p n bit limit=0):updateV p n bit limit = .tuple #[.agg #[.int .i64 (step p n bit),.int .i64 (min (n+1) limit)],.int .i64 0]:=by
 unfold updateV updateP updateN;rw[if_neg (by omega),if_neg (by omega),h]
theorem check_ok{p n limit:Int}(h:check p n limit=0):1≤limit∧limit≤1023∧0≤p∧p≤65535∧0≤n∧n≤limit:=by
 unfold check at h;split at h
 ·omega
 ·split at h<;>omega
theorem tdiv_bounds(a d:Int)(hd:0<d):(0≤a→0≤a.tdiv d∧a.tdiv d*d≤a)∧(a≤0→a.tdiv d≤0∧a≤a.tdiv d*d):=by
 constructor
 ·intro h;rw[Int.tdiv_eq_ediv_of_nonneg h];exact⟨Int.ediv_nonneg h (by omega),by rw[Int.mul_comm];exact Int.mul_ediv_self_le (by omega)⟩
 ·intro h;have e:a.tdiv d = -((-a)/d):=by rw[←Int.tdiv_eq_ediv_of_nonneg (by omega),Int.neg_tdiv,Int.neg_neg]
  rw[e];have h1:0≤(-a)/d:=Int.ediv_nonneg (by omega) (by omega);have h2:d*((-a)/d)≤ -a:=Int.mul_ediv_self_le (by omega);refine⟨by omega,?_⟩;rw[Int.neg_mul,Int.mul_comm];omega
theorem step_between{p n bit:Int}(hp:0≤p)(hp':p≤65535)(hn:0≤n)(hb:bit=0∨bit=1) :
 (bit=1→p≤step p n bit∧step p n bit≤65535)∧(bit=0→0≤step p n bit∧step p n bit≤p):=by
 have hd:0<2*n+3:=by omega
 obtain⟨h1,h2⟩:=tdiv_bounds (2*(65535*bit-p)) (2*n+3) hd;unfold step;generalize hq:(2*(65535*bit-p)).tdiv (2*n+3)=q at *;refine⟨fun hb1=> ?_,fun hb0=> ?_⟩
 ·subst hb1;obtain⟨h3,h4⟩:=h1 (by omega);have:q*3≤q*(2*n+3):=Int.mul_le_mul_of_nonneg_left (by omega) h3;omega
 ·subst hb0;obtain⟨h3,h4⟩:=h2 (by omega);have:q*(2*n+3)≤q*3:=Int.mul_le_mul_of_nonpos_left h3 (by omega);omega
end Go.Proofs.YtahaacfikalheaaGreat.S08
namespace Go.Proofs.YtahaacfikalheaaGreat.S12
def eqAt(b:List Int)(p n:Nat):Bool:=b.getD (p-1-n) 0==b.getD (b.length-1-n) 0
def rep(b:List Int)(p:Nat):Nat:=((List.range (min 255 p)).takeWhile (eqAt b p)).length
theorem takeWhile_range(f:Nat→Bool)(m k:Nat)(hk:k≤m)(h1:∀i,i<k→f i=true)(h2:k=m∨f k=false):((List.range m).takeWhile f).length=k:=by
 induction m generalizing k f with
 | zero=>obtain rfl:k=0:=by omega
         rfl
 | succ m ih=>
   rw[List.range_succ_eq_map,List.takeWhile_cons];cases k with
   | zero=>rcases h2 with h2|h2
           ·omega
           ·rw[h2];rfl
   | succ k=>
     rw[h1 0 (by omega)];simp only[if_true,List.length_cons,List.takeWhile_map,List.length_map];rw[ih (f∘Nat.succ) k (by omega) (fun i hi=>h1 (i+1) (by omega)) (by rcases h2 with h2|h2;exact .inl (by omega);exact .inr h2)]
theorem takeWhile_range_spec(f:Nat→Bool)(m:Nat):((List.range m).takeWhile f).length≤m∧(∀i,i<((List.range m).takeWhile f).length→f i=true)∧(((List.range m).takeWhile f).length=m∨f ((List.range m).takeWhile f).length=false):=by
 have key:∀(f:Nat→Bool) (m:Nat),∃k,k≤m∧(∀i,i<k→f i=true)∧(k=m∨f k=false):=fun f m=>by
  induction m with
  | zero=>exact⟨0,by omega,fun i hi=>by omega,.inl rfl⟩
  | succ m ih=>
    obtain⟨k,h1,h2,h3⟩:=ih;rcases h3 with h3|h3
    ·subst h3;cases hf:f k with
     | true=>exact⟨k+1,by omega,fun i hi=>by rcases Nat.lt_succ_iff_lt_or_eq.1 hi with h|rfl;exact h2 i h;exact hf,.inl rfl⟩
     | false=>exact⟨k,by omega,h2,.inr hf⟩
    ·exact⟨k,by omega,h2,.inr h3⟩
 obtain⟨k,h1,h2,h3⟩:=key f m;rw[takeWhile_range f m k h1 h2 h3];exact⟨h1,h2,h3⟩
theorem rep_of{b:List Int}{p k:Nat}(hk:k≤min 255 p)(h1:∀i,i<k→eqAt b p i=true)(h2:k=min 255 p∨eqAt b p k=false):rep b p=k:=takeWhile_range _ _ _ hk h1 h2
theorem rep_le(b:List Int)(p:Nat):rep b p≤min 255 p:=(takeWhile_range_spec _ _).1
theorem rep_eq(b:List Int)(p:Nat):∀i,i<rep b p→eqAt b p i=true:=(takeWhile_range_spec _ _).2.1
theorem rep_end(b:List Int)(p:Nat):rep b p=min 255 p∨eqAt b p (rep b p)=false:=(takeWhile_range_spec _ _).2.2
theorem le_rep{b:List Int}{p k:Nat}(hk:k≤min 255 p)(h1:∀i,i<k→eqAt b p i=true):k≤rep b p:=by
 rcases rep_end b p with h|h
 ·omega
 ·by_cases hlt:rep b p<k
  ·rw[h1 _ hlt]at h;cases h
  ·omega
def expFrom(x:Nat)(pt:Int):Nat→Option Nat
 | 0=>none
 | k+1=>if((256+x)/2^(k+1):Nat)=pt then some ((256+x)/2^k%2)else expFrom x pt k
def exp(x:Nat)(pt:Int):Option Nat:=expFrom x pt 8
structure M where
 bits:Int
 least:Int
 heads:List Int
 bytes:List Int
 at_:Int
 len:Int
 part:Int
 bit:Int
 ctrs:List (Int×Int)
def form(m:M):Bool:=decide (m.heads.length=2^m.bits.toNat)&&decide (m.ctrs.length=16)&&decide (1≤m.part∧m.part≤255)
def far(m:M):Bool:=m.heads.any fun h=> !decide (0≤h∧h≤m.bytes.length)
def bad(m:M):Bool:=m.ctrs.any fun c=>S08.check c.1 c.2 255 != 0
def matched(m:M):Bool:=
 if m.len=0 then decide (m.at_=0)&&decide (m.bit=2)
 else decide (1≤m.len∧m.len≤255)&&decide (m.len≤m.at_∧m.at_≤(m.bytes.length:Int)-1)&&decide (m.len≤(rep m.bytes m.at_.toNat:Int)) &&
  (match exp (m.bytes.getD m.at_.toNat 0).toNat m.part with|some b=>decide ((b:Int)=m.bit)|none=>false)
def check(m:M):Int:=
 if¬(1≤m.bits∧m.bits≤16)∨¬(1≤m.least∧m.least≤32)then 2
 else if 65536<m.bytes.length then 5
 else if form m=false then 3
 else if far m=true∨bad m=true∨matched m=false then 3 else 0
def predP(m:M):Int:=
 if check m≠0 then 0 else if m.len=0 then 2048
 else
  let c:=m.ctrs.getD (min m.len.toNat 15) (0,0)
  if m.bit=0 then 4096-S08.predict c.1 c.2 else S08.predict c.1 c.2
def predB(m:M):Bool:=decide (check m=0)&&decide (m.len≠0)
end Go.Proofs.YtahaacfikalheaaGreat.S12
namespace Go.Proofs.YtahaacfikalheaaGreat.S12
def expI(x:Int)(pt:Int):Int:=match exp x.toNat pt with|some b=>(b:Int)|none=>2
def factor:Nat:=2654435761
def hash(b:List Int):Nat:=b.foldl (fun h (x:Int)=>(h+x.toNat+1)*factor%4294967296) 0
def idx(b:List Int)(bits least:Int):Nat:=hash (b.drop (b.length-least.toNat))/2^(32-bits.toNat)
def learn(m:M)(b:Int):M:=
 if m.len=0 then m
 else if b=m.bit then {m with ctrs:=m.ctrs.set (min m.len.toNat 15) (S08.step (m.ctrs.getD (min m.len.toNat 15) (0,0)).1 (m.ctrs.getD (min m.len.toNat 15) (0,0)).2 1,min ((m.ctrs.getD (min m.len.toNat 15) (0,0)).2+1) 255)}
 else {m with ctrs:=m.ctrs.set (min m.len.toNat 15) (S08.step (m.ctrs.getD (min m.len.toNat 15) (0,0)).1 (m.ctrs.getD (min m.len.toNat 15) (0,0)).2 0,min ((m.ctrs.getD (min m.len.toNat 15) (0,0)).2+1) 255),at_:=0,len:=0}
def extend(m:M):M:=if 0<m.len then {m with at_:=m.at_+1,len:=min (m.len+1) 255}else m
def found(m:M):Bool:=decide (m.len=0)&&decide (0<m.heads.getD (idx m.bytes m.bits m.least) 0)&&decide (m.least≤(rep m.bytes (m.heads.getD (idx m.bytes m.bits m.least) 0).toNat:Int))
def search(m:M):M:=
 if(m.bytes.length:Int)<m.least then m
 else {m with
  at_:=if found m then m.heads.getD (idx m.bytes m.bits m.least) 0 else m.at_,
  len:=if found m then(rep m.bytes (m.heads.getD (idx m.bytes m.bits m.least) 0).toNat:Int)else m.len,
  heads:=m.heads.set (idx m.bytes m.bits m.least) m.bytes.length}
def take(m:M)(p:Int):M:=if 255<p then search (extend {m with bytes:=m.bytes ++ [p-256],part:=1})else {m with part:=p}
def expect(m:M):M:={m with bit:=if 0<m.len then expI (m.bytes.getD m.at_.toNat 0) m.part else 2}
def bitM(m:M)(b:Int):M:=expect (take (learn m b) (2*(learn m b).part+b))
def bitE(m:M)(b:Int):Int:=if check m≠0 then check m else if¬(0≤b∧b≤1)then 1 else if 128≤m.part∧65536≤m.bytes.length then 11 else 0
structure WF(m:M):Prop where
 bits:1≤m.bits∧m.bits≤16
 least:1≤m.least∧m.least≤32
 few:m.bytes.length≤65536
 heads:m.heads.length=2^m.bits.toNat
 ctrs:m.ctrs.length=16
 part:1≤m.part∧m.part≤255
 head:∀h∈m.heads,0≤h∧h≤m.bytes.length
 ctr:∀c∈m.ctrs,S08.check c.1 c.2 255=0
 mat:matched m=true
theorem check_iff(m:M):check m=0↔WF m:=by
 have hf:far m=false↔∀h∈m.heads,0≤h∧h≤m.bytes.length:=by
  unfold far;rw[List.any_eq_false];simp
 have hb:bad m=false↔∀c∈m.ctrs,S08.check c.1 c.2 255=0:=by
  unfold bad;rw[List.any_eq_false];simp
 have hfo:form m=true↔m.heads.length=2^m.bits.toNat∧m.ctrs.length=16∧1≤m.part∧m.part≤255:=by unfold form;simp[and_assoc]
 constructor
 ·intro h;unfold check at h;split at h
  ·cases h
  ·rename_i h1
   split at h
   ·cases h
   ·rename_i h2
    split at h
    ·cases h
    ·rename_i h3
     split at h
     ·cases h
     ·rename_i h4
      have h3':form m=true:=by cases e:form m<;>simp_all
      obtain⟨a,b,c⟩:=hfo.1 h3';refine⟨by omega,by omega,by omega,a,b,c,hf.1 (by cases e:far m<;>simp_all),hb.1 (by cases e:bad m<;>simp_all),by cases e:matched m<;>simp_all⟩
 ·intro h;unfold check;have:=h.bits;have:=h.least;have:=h.few;rw[if_neg (by omega),if_neg (by omega),if_neg (by rw[hfo.2 ⟨h.heads,h.ctrs,h.part⟩];simp),if_neg (by rw[hf.2 h.head,hb.2 h.ctr,h.mat];simp)]
theorem hash_lt(b:List Int):hash b<4294967296:=by
 have key:∀(b:List Int) (h:Nat),h<4294967296→b.foldl (fun h (x:Int)=>(h+x.toNat+1)*factor%4294967296) h<4294967296:=fun b=>by
  induction b with
  | nil=>exact fun h hh=>hh
  | cons x xs ih=>exact fun h _=>ih _ (Nat.mod_lt _ (by omega))
 exact key b 0 (by omega)
theorem idx_lt(b:List Int){bits:Int}(least:Int)(h:1≤bits∧bits≤16):idx b bits least<2^bits.toNat:=by
 unfold idx;rw[Nat.div_lt_iff_lt_mul (Nat.two_pow_pos _),←Nat.pow_add];have e:bits.toNat+(32-bits.toNat)=32:=by omega
 rw[e];exact hash_lt _
theorem exp_at{x pt n:Nat}(hx:x<256)(hn:n≤7)(h1:2^n≤pt)(h2:pt<2^(n+1)):exp x (pt:Int)=if(256+x)/2^(8-n)=pt then some (x/2^(7-n)%2)else none:=by
 have key:∀k,k≤8→expFrom x (pt:Int) k=if 8-n≤k∧(256+x)/2^(8-n)=pt then some (x/2^(7-n)%2)else none:=by
  intro k;induction k with
  | zero=>intro _;rw[if_neg (by omega)];rfl
  | succ k ih=>
    intro hk;have hi:=ih (by omega);unfold expFrom;by_cases hkn:k=7-n
    ·subst hkn;rw[show 7-n+1=8-n by omega];by_cases he:(256+x)/2^(8-n)=pt
     ·rw[if_pos (by exact_mod_cast he),if_pos ⟨Nat.le_refl _,he⟩]
      congr 1
      have:(256+x)/2^(7-n)=2^(n+1)+x/2^(7-n):=by
       have e:256=2^(n+1)*2^(7-n):=by rw[←Nat.pow_add,show n+1+(7-n)=8 by omega]
       rw[e,Nat.add_comm,Nat.add_mul_div_right _ _ (Nat.two_pow_pos _),Nat.add_comm]
      rw[this,Nat.pow_succ];omega
     ·rw[if_neg (by exact_mod_cast he),if_neg (by omega),hi,if_neg (by omega)]
    ·have hne:¬(256+x)/2^(k+1)=pt:=by
      intro he;have p1:2^(7-k)≤(256+x)/2^(k+1):=by
       rw[Nat.le_div_iff_mul_le (Nat.two_pow_pos _),←Nat.pow_add,show 7-k+(k+1)=8 by omega];omega
      have p2:(256+x)/2^(k+1)<2^(8-k):=by
       rw[Nat.div_lt_iff_lt_mul (Nat.two_pow_pos _),←Nat.pow_add,show 8-k+(k+1)=9 by omega];omega
      rw[he]at p1 p2;have q1:7-k<n+1:=(Nat.pow_lt_pow_iff_right (by omega:1<2)).1 (Nat.lt_of_le_of_lt p1 h2);have q2:n<8-k:=(Nat.pow_lt_pow_iff_right (by omega:1<2)).1 (Nat.lt_of_le_of_lt h1 p2);omega
     rw[if_neg (by exact_mod_cast hne),hi];by_cases hc:8-n≤k
     ·simp only[hc,true_and,show 8-n≤k+1 by omega]
     ·rw[if_neg (by omega),if_neg (by omega)]
 have:=key 8 (by omega);unfold exp;rw[this];simp only[show 8-n≤8 by omega,true_and]
theorem log_of{pt:Nat}(h1:1≤pt)(h2:pt≤255):∃n,n≤7∧2^n≤pt∧pt<2^(n+1):=by
 have a:=Nat.log2_self_le (n:=pt) (by omega);have b:=Nat.lt_log2_self (n:=pt);have c:pt.log2<8:=(Nat.pow_lt_pow_iff_right (by omega:1<2)).1 (Nat.lt_of_le_of_lt a (by omega));exact⟨pt.log2,by omega,a,b⟩
end Go.Proofs.YtahaacfikalheaaGreat.S12
namespace Go.Proofs.YtahaacfikalheaaGreat.S12
theorem getD_in{α:Type}(l:List α)(d:α){i:Nat}(hi:i<l.length):l.getD i d=l[i]:=by rw[List.getD,List.getElem?_eq_getElem hi];rfl
theorem getD_out{α:Type}(l:List α)(d:α){i:Nat}(hi:l.length≤i):l.getD i d=d:=by rw[List.getD,List.getElem?_eq_none hi];rfl
theorem exp_inv{x pt b:Nat}(hx:x<256)(h1:1≤pt)(h2:pt≤255)(he:exp x (pt:Int)=some b):∃n,n≤7∧2^n≤pt∧pt<2^(n+1)∧(256+x)/2^(8-n)=pt∧b=x/2^(7-n)%2:=by
 obtain⟨n,hn,a,c⟩:=log_of h1 h2;rw[exp_at hx hn a c]at he;split at he
 ·rename_i h
  exact⟨n,hn,a,c,h,(Option.some.inj he).symm⟩
 ·cases he
theorem half_top{x n:Nat}(hn:n≤7):(256+x)/2^(7-n)=2*((256+x)/2^(8-n))+x/2^(7-n)%2:=by
 have e1:(256+x)/2^(7-n)=2^(n+1)+x/2^(7-n):=by
  have e:256=2^(n+1)*2^(7-n):=by rw[←Nat.pow_add,show n+1+(7-n)=8 by omega]
  rw[e,Nat.add_comm,Nat.add_mul_div_right _ _ (Nat.two_pow_pos _),Nat.add_comm]
 have e2:(256+x)/2^(8-n)=(256+x)/2^(7-n)/2:=by rw[Nat.div_div_eq_div_mul,←Nat.pow_succ,show(7-n).succ=8-n by omega]
 rw[e2,e1,Nat.pow_succ];omega
theorem exp_next{x pt b:Nat}(hx:x<256)(h1:1≤pt)(h2:pt≤127)(he:exp x (pt:Int)=some b):∃c,exp x ((2*pt+b:Nat):Int)=some c:=by
 obtain⟨n,hn,h3,h4,h5,rfl⟩:=exp_inv hx h1 (by omega) he;have hn6:n≤6:=by
  have:2^n<2^7:=by omega
  have:=(Nat.pow_lt_pow_iff_right (by omega:1<2)).1 this;omega
 have ht:=half_top (x:=x) hn;have q1:2^(n+1)=2*2^n:=by rw[Nat.pow_succ,Nat.mul_comm]
 have q2:2^(n+1+1)=2*2^(n+1):=by rw[Nat.pow_succ,Nat.mul_comm]
 have:=Nat.mod_lt (x/2^(7-n)) (show 0<2 by omega);rw[exp_at (n:=n+1) hx (by omega) (by omega) (by omega),if_pos (by rw[show 8-(n+1)=7-n by omega];omega)];exact⟨_,rfl⟩
theorem exp_full{x pt b:Nat}(hx:x<256)(h1:128≤pt)(h2:pt≤255)(he:exp x (pt:Int)=some b):256+x=2*pt+b:=by
 obtain⟨n,hn,h3,h4,h5,rfl⟩:=exp_inv hx (by omega) h2 he;have hn7:n=7:=by
  have:2^7<2^(n+1):=by omega
  have:=(Nat.pow_lt_pow_iff_right (by omega:1<2)).1 this;omega
 subst hn7;have ht:=half_top (x:=x) (n:=7) (by omega);simp only[Nat.sub_self,Nat.pow_zero,Nat.div_one]at ht h5⊢;omega
theorem exp_first{x:Nat}(hx:x<256):∃c,exp x (1:Int)=some c:=by
 have:=exp_at (x:=x) (pt:=1) (n:=0) hx (by omega) (by omega) (by omega);rw[if_pos (by omega)]at this;exact⟨_,this⟩
def Byt(l:List Int):Prop:=∀x∈l,0≤x∧x<256
theorem Byt.at{l:List Int}(h:Byt l)(i:Nat):(l.getD i 0).toNat<256:=by
 by_cases hi:i<l.length
 ·rw[getD_in _ _ hi];have:=h _ (List.getElem_mem hi);omega
 ·rw[getD_out _ _ (by omega)];decide
theorem Byt.get{l:List Int}(h:Byt l)(i:Nat):0≤l.getD i 0:=by
 by_cases hi:i<l.length
 ·rw[getD_in _ _ hi];have:=h _ (List.getElem_mem hi);omega
 ·rw[getD_out _ _ (by omega)];decide
structure Mat(m:M):Prop where
 len:1≤m.len∧m.len≤255
 at_:m.len≤m.at_∧m.at_≤(m.bytes.length:Int)-1
 rep:m.len≤(rep m.bytes m.at_.toNat:Int)
 exp:∃b:Nat,exp (m.bytes.getD m.at_.toNat 0).toNat m.part=some b∧m.bit=b
theorem matched_iff(m:M):matched m=true↔(m.len=0∧m.at_=0∧m.bit=2)∨Mat m:=by
 constructor
 ·intro h;unfold matched at h;split at h
  ·rename_i h0
   simp at h;exact .inl ⟨h0,h.1,h.2⟩
  ·rename_i h0
   simp only[Bool.and_eq_true,decide_eq_true_eq]at h;obtain⟨⟨⟨h1,h2⟩,h3⟩,h4⟩:=h;refine .inr ⟨h1,h2,h3,?_⟩;split at h4
   ·rename_i b hb
    exact⟨b,hb,by simp at h4;exact h4.symm⟩
   ·cases h4
 ·rintro(⟨h0,h1,h2⟩|h)
  ·unfold matched;rw[if_pos h0];simp[h1,h2]
  ·have:=h.len;unfold matched;rw[if_neg (by omega)];obtain⟨b,hb,he⟩:=h.exp;rw[hb];have h1:=h.len;have h2:=h.at_;have h3:=h.rep;simp[h1,h2,h3,he]
theorem getD_app(l:List Int)(x:Int)(i:Nat)(hi:i<l.length):(l ++ [x]).getD i 0=l.getD i 0:=by
 rw[getD_in _ _ (by simp;omega),getD_in _ _ hi,List.getElem_append_left hi]
theorem getD_last(l:List Int)(x:Int):(l ++ [x]).getD l.length 0=x:=by
 rw[getD_in _ _ (by simp),List.getElem_append_right (Nat.le_refl _)];simp
theorem rep_extend{l:List Int}{x:Int}{p n:Nat}(hp:p<l.length)(hn:n≤rep l p)(hx:l.getD p 0=x):min (n+1) 255≤rep (l ++ [x]) (p+1):=by
 have hr:=rep_le l p;refine le_rep (by omega) (fun i hi=> ?_);unfold eqAt;simp only[List.length_append,List.length_singleton,Nat.add_sub_cancel];cases i with
 | zero=>
   rw[Nat.sub_zero,Nat.sub_zero,getD_last,getD_app _ _ _ hp,hx];simp
 | succ i=>
   rw[getD_app _ _ _ (by omega),getD_app _ _ _ (by omega)];have:=rep_eq l p i (by omega);unfold eqAt at this;rw[show p-(i+1)=p-1-i by omega,show l.length-(i+1)=l.length-1-i by omega];exact this
theorem learn_ctr{c:Int×Int}(h:S08.check c.1 c.2 255=0){r:Int}(hr:r=0∨r=1):S08.check (S08.step c.1 c.2 r) (min (c.2+1) 255) 255=0:=by
 have hc:=S08.check_ok h;have hb:=S08.step_between (p:=c.1) (n:=c.2) (bit:=r) (by omega) (by omega) (by omega) hr;unfold S08.check;rw[if_neg (by omega),if_neg];rcases hr with rfl|rfl
 ·have:=hb.2 rfl;omega
 ·have:=hb.1 rfl;omega
structure Lrn(m m':M)(b:Int):Prop where
 bits:m'.bits=m.bits
 least:m'.least=m.least
 heads:m'.heads=m.heads
 bytes:m'.bytes=m.bytes
 part:m'.part=m.part
 len:m'.ctrs.length=m.ctrs.length
 ctr:∀c∈m'.ctrs,S08.check c.1 c.2 255=0
 alt:(m'.len=0∧m'.at_=0)∨(m.len≠0∧b=m.bit∧m'.len=m.len∧m'.at_=m.at_)
theorem WF.at0{m:M}(h:WF m)(h0:m.len=0):m.at_=0∧m.bit=2:=by
 rcases(matched_iff m).1 h.mat with⟨_,h1,h2⟩|h
 ·exact⟨h1,h2⟩
 ·have:=h.len;omega
theorem WF.Mat{m:M}(h:WF m)(h0:m.len≠0):Mat m:=by
 rcases(matched_iff m).1 h.mat with⟨h1,_⟩|h
 ·exact absurd h1 h0
 ·exact h
theorem WF.learn{m:M}(h:WF m)(b:Int):Lrn m (learn m b) b:=by
 have hset:∀(i:Nat) (r:Int),(r=0∨r=1)→∀c∈m.ctrs.set i (S08.step (m.ctrs.getD i (0,0)).1 (m.ctrs.getD i (0,0)).2 r,min ((m.ctrs.getD i (0,0)).2+1) 255),S08.check c.1 c.2 255=0:=fun i r hr c hc=>by
  rcases List.mem_or_eq_of_mem_set hc with hc|rfl
  ·exact h.ctr c hc
  ·by_cases hi:i<m.ctrs.length
   ·exact learn_ctr (h.ctr _ (by rw[getD_in _ _ hi];exact List.getElem_mem hi)) hr
   ·rw[getD_out _ _ (by omega)];rcases hr with rfl|rfl<;>decide
 unfold S12.learn;split
 ·rename_i h0
  exact⟨rfl,rfl,rfl,rfl,rfl,rfl,h.ctr,.inl ⟨h0,(h.at0 h0).1⟩⟩
 ·rename_i h0
  split
  ·rename_i hb
   exact⟨rfl,rfl,rfl,rfl,rfl,List.length_set,hset _ 1 (.inr rfl),.inr ⟨h0,hb,rfl,rfl⟩⟩
  ·exact⟨rfl,rfl,rfl,rfl,rfl,List.length_set,hset _ 0 (.inl rfl),.inl ⟨rfl,rfl⟩⟩
theorem WF.bitM{m:M}(h:WF m)(hB:Byt m.bytes){b:Int}(hb:b=0∨b=1)(hE:bitE m b=0):WF (bitM m b):=by
 have hck:=(check_iff m).2 h;have hroom:¬(128≤m.part∧65536≤m.bytes.length):=by
  unfold bitE at hE;rw[if_neg (by rw[hck];simp),if_neg (by omega)]at hE;split at hE
  ·cases hE
  ·assumption
 have hL:=h.learn b;have hp:=h.part;have hfew:=h.few;have hbits:=h.bits;have hle:=h.least;unfold S12.bitM;generalize S12.learn m b=n at hL⊢;obtain⟨n1,n2,n3,n4,n5,n6,n7,n8⟩:=hL;have hmat:m.len≠0→S12.Mat m:=h.Mat;obtain⟨pt,hpt⟩:∃pt:Nat,m.part=pt:=⟨m.part.toNat,by omega⟩;have hbN:∀c:Nat,m.bit=c→b=m.bit→2*m.part+b=((2*pt+c:Nat):Int):=fun c h1 h2=>by omega
 by_cases hfull:255<2*n.part+b
 ·unfold take;rw[if_pos hfull];have hpt2:128≤pt:=by omega
  have hlen:m.bytes.length<65536:=by omega
  obtain⟨y,hy⟩:∃y,2*n.part+b-256=y:=⟨_,rfl⟩;rw[hy];have hyr:0≤y∧y<256:=by omega
  have hB2:Byt (m.bytes ++ [y]):=fun z hz=>by
   rcases List.mem_append.1 hz with hz|hz
   ·exact hB z hz
   ·rw[List.mem_singleton.1 hz];exact hyr
  have hex1:∀i:Nat,∃c:Nat,exp ((m.bytes ++ [y]).getD i 0).toNat 1=some c:=fun i=>exp_first (hB2.at i)
  have hexI:∀i:Nat,∃c:Nat,exp ((m.bytes ++ [y]).getD i 0).toNat 1=some c∧expI ((m.bytes ++ [y]).getD i 0) 1=c:=fun i=>by
   obtain⟨c,hc⟩:=hex1 i;exact⟨c,hc,by unfold expI;rw[hc]⟩
  obtain⟨q,hq⟩:∃q,extend {n with bytes:=n.bytes ++ [y],part:=1}=q:=⟨_,rfl⟩;rw[hq];have qf:q.bits=m.bits∧q.least=m.least∧q.heads=m.heads∧q.bytes=m.bytes ++ [y]∧q.part=1∧q.ctrs=n.ctrs:=by
   rw[←hq];unfold extend;split<;>simp[n1,n2,n3,n4]
  have qa:(q.len=0∧q.at_=0)∨(1≤q.len∧q.len≤255∧q.len≤q.at_∧q.at_≤m.bytes.length∧q.len≤(rep (m.bytes ++ [y]) q.at_.toNat:Int)):=by
   rw[←hq];unfold extend;rcases n8 with⟨a1,a2⟩|⟨a1,a2,a3,a4⟩
   ·rw[if_neg (by simp only;omega)];exact .inl ⟨a1,a2⟩
   ·have hM:=hmat a1;have b1:=hM.len;have b2:=hM.at_;have b3:=hM.rep;rw[if_pos (by simp only;omega)];simp only;rw[a3,a4];obtain⟨c,hc,hcb⟩:=hM.exp;have hxx:m.bytes.getD m.at_.toNat 0=y:=by
     have:=exp_full (hB.at m.at_.toNat) hpt2 (by omega) (by rw[←hpt];exact hc);have:=hbN c hcb a2;have:=hB.get m.at_.toNat;omega
    have hrx:=rep_extend (l:=m.bytes) (x:=y) (p:=m.at_.toNat) (n:=m.len.toNat) (by omega) (by omega) hxx;refine .inr ⟨by omega,by omega,by omega,by omega,?_⟩;rw[show(m.at_+1).toNat=m.at_.toNat+1 by omega];omega
  clear hq hbN;obtain⟨q1,q2,q3,q4,q5,q6⟩:=qf;have hqc:q.ctrs.length=16:=by rw[q6,n6];exact h.ctrs
  have hqh:∀x∈q.heads,0≤x∧x≤(m.bytes.length:Int):=by rw[q3];exact h.head
  unfold search;split
  ·refine⟨by simpa[expect,q1] using h.bits,by simpa[expect,q2] using h.least,by simp[expect,q4];omega,by simp[expect,q1,q3];exact h.heads,by simpa[expect] using hqc,by simp[expect,q5],?_,by simpa[expect,q6] using n7,?_⟩
   ·simp only[expect,q4,List.length_append,List.length_singleton];intro x hx;have:=hqh x hx;omega
   ·rw[matched_iff];rcases qa with⟨a1,a2⟩|⟨a1,a2,a3,a4,a5⟩
    ·exact .inl ⟨a1,a2,by simp[expect,a1]⟩
    ·refine .inr ⟨⟨a1,a2⟩,⟨a3,by simp[expect,q4];omega⟩,by simpa[expect,q4] using a5,?_⟩;obtain⟨c,hc,hc2⟩:=hexI q.at_.toNat;refine⟨c,by simp only[expect,q4,q5];exact hc,?_⟩;simp only[expect,q4,q5];rw[if_pos (by omega)];exact hc2
  ·have hil:=idx_lt (m.bytes ++ [y]) m.least h.bits;refine⟨by simpa[expect,q1] using h.bits,by simpa[expect,q2] using h.least,by simp[expect,q4];omega,by simp[expect,q1,q3];exact h.heads,by simpa[expect] using hqc,by simp[expect,q5],?_,by simpa[expect,q6] using n7,?_⟩
   ·simp only[expect,q4,List.length_append,List.length_singleton];intro x hx;rcases List.mem_or_eq_of_mem_set hx with hx|rfl
    ·have:=hqh x hx;omega
    ·omega
   ·rw[matched_iff];simp only[expect];obtain⟨hd,hhd⟩:∃hd,q.heads.getD (idx q.bytes q.bits q.least) 0=hd:=⟨_,rfl⟩;have hdr:hd≤(m.bytes.length:Int):=by
     rw[←hhd];by_cases hi:idx q.bytes q.bits q.least<q.heads.length
     ·rw[getD_in _ _ hi];exact(hqh _ (List.getElem_mem hi)).2
     ·rw[getD_out _ _ (by omega)];omega
    cases hf:found q with
    | true=>
      unfold found at hf;rw[hhd]at hf;simp only[Bool.and_eq_true,decide_eq_true_eq]at hf;obtain⟨⟨f1,f2⟩,f3⟩:=hf;have hrl:=rep_le q.bytes hd.toNat;have hq2:1≤q.least:=by rw[q2];exact hle.1
      simp only[if_true,hhd];rw[q4]at f3 hrl;refine .inr ⟨by simp only[q4];omega,by simp only[q4,List.length_append,List.length_singleton];omega,by simp only[q4];omega,?_⟩;obtain⟨c,hc,hc2⟩:=hexI hd.toNat;refine⟨c,by simp only[q4,q5];exact hc,?_⟩;simp only[q4,q5];rw[if_pos (by omega)];exact hc2
    | false=>
      simp only[Bool.false_eq_true,if_false];rcases qa with⟨a1,a2⟩|⟨a1,a2,a3,a4,a5⟩
      ·exact .inl ⟨a1,a2,by simp[a1]⟩
      ·refine .inr ⟨⟨a1,a2⟩,⟨a3,by simp[q4];omega⟩,by simpa[q4] using a5,?_⟩;obtain⟨c,hc,hc2⟩:=hexI q.at_.toNat;refine⟨c,by simp only[q4,q5];exact hc,?_⟩;simp only[q4,q5];rw[if_pos (by omega)];exact hc2
 ·unfold take;rw[if_neg hfull];refine⟨by simpa[expect,n1] using h.bits,by simpa[expect,n2] using h.least,by simpa[expect,n4] using h.few,by simp[expect,n1,n3];exact h.heads,by simp[expect,n6];exact h.ctrs,by simp only[expect];omega,by simp only[expect,n3,n4];exact h.head,by simpa[expect] using n7,?_⟩;rw[matched_iff];simp only[expect];rcases n8 with⟨a1,a2⟩|⟨a1,a2,a3,a4⟩
  ·exact .inl ⟨a1,a2,by simp[a1]⟩
  ·have hM:=hmat a1;have b1:=hM.len;have b2:=hM.at_;have b3:=hM.rep;obtain⟨c,hc,hcb⟩:=hM.exp;rw[hpt]at hc;obtain⟨d,hd⟩:=exp_next (hB.at m.at_.toNat) (by omega) (by omega) hc;have e:=hbN c hcb a2;rw[n5];refine .inr ⟨by simp only;omega,by simp only[n4];omega,by simp only[n4,a3,a4];exact b3,d,?_,?_⟩
   ·simp only[n4,a4];rw[e];exact hd
   ·simp only[n4,a4];rw[if_pos (by omega)];unfold expI;rw[e,hd]
end Go.Proofs.YtahaacfikalheaaGreat.S12
namespace Go.Proofs.YtahaacfikalheaaGreat.S12
def start(bits least:Int):M:=⟨bits,least,List.replicate (2^bits.toNat) 0,[],0,0,1,2,List.replicate 16 (32768,0)⟩
structure Fed(bits least:Int)(bs:List Int)(m:M):Prop where
 wf:WF m
 bits:m.bits=bits
 least:m.least=least
 bytes:m.bytes=bs
 part:m.part=1
 long:m.len=0∨m.least≤m.len
theorem start_wf{bits least:Int}(h1:1≤bits∧bits≤16)(h2:1≤least∧least≤32):Fed bits least [] (start bits least):=by
 refine⟨⟨h1,h2,by simp[start],by simp[start],by simp[start],by simp[start],?_,?_,?_⟩,rfl,rfl,rfl,rfl,.inl rfl⟩
 ·intro x hx;rw[List.eq_of_mem_replicate hx];simp[start]
 ·intro c hc;rw[List.eq_of_mem_replicate hc];rfl
 ·rw[matched_iff];exact .inl ⟨rfl,rfl,rfl⟩
theorem learn_bits(m:M)(b:Int):(learn m b).bits=m.bits∧(learn m b).least=m.least∧(learn m b).bytes=m.bytes∧(learn m b).part=m.part∧(learn m b).heads=m.heads:=by
 unfold learn;split
 ·exact⟨rfl,rfl,rfl,rfl,rfl⟩
 ·split<;>exact⟨rfl,rfl,rfl,rfl,rfl⟩
theorem bitE_ok{m:M}(h:WF m){b:Int}(hb:b=0∨b=1)(hr:m.bytes.length<65536):bitE m b=0:=by
 unfold bitE;rw[if_neg (by rw[(check_iff m).2 h];simp),if_neg (by omega),if_neg (by omega)]
theorem half(x k:Nat):(256+x)/2^k=2*((256+x)/2^(k+1))+(256+x)/2^k%2:=by
 rw[Nat.pow_succ,←Nat.div_div_eq_div_mul];omega
end Go.Proofs.YtahaacfikalheaaGreat.S12
namespace Go.Proofs.YtahaacfikalheaaGreat.S12
end Go.Proofs.YtahaacfikalheaaGreat.S12
namespace Go.Proofs.YtahaacfikalheaaGreat.S12
end Go.Proofs.YtahaacfikalheaaGreat.S12
