/- A part of the proof of L14l. No condition. -/
import Derived.LoadGo2
set_option linter.all false
set_option maxRecDepth 100000
set_option maxHeartbeats 200000
namespace Go.Proofs.YthhgkafloejjiaaGreat.S14
structure C where
 kind:Int
 bits:Int
 limit:Int
 rate:Int
 first:Int
 second:Int
def has(n lo hi:Int):Bool:=decide (lo≤n∧n≤hi)
def only(c:C)(b l r f s:Bool):Bool:=(b||c.bits==0)&&(l||c.limit==0)&&(r||c.rate==0)&&(f||c.first==0)&&(s||c.second==0)
def ctx(c:C):Bool:=only c true true false false false&&decide (c.bits≤16)
def okConst(c:C):Bool:=only c false true false false false&&has c.limit 1 4095
def okDirect(c:C):Bool:=only c true true false false false&&has c.bits 0 16&&has c.limit 1 1023
def okMatch(c:C):Bool:=only c true true false false false&&has c.bits 1 16&&has c.limit 1 32
def okAverage(c:C)(k:Int):Bool:=only c false true false true true&&has c.limit 0 256&&has c.first 0 (k-1)&&has c.second 0 (k-1)
def okMix(c:C)(k:Int):Bool:=only c true false true true true&&has c.bits 0 16&&has c.rate 1 255&&has c.first 0 (k-1)&&has c.second c.first (k-1)
def okRefine(c:C)(k:Int):Bool:=only c true false true true false&&has c.bits 0 16&&has c.rate 1 255&&has c.first 0 (k-1)
def ok(c:C)(k:Int):Bool:=
 if c.kind=0 then okConst c else if c.kind=1 then okDirect c else if c.kind=2 then okDirect c else if c.kind=3 then okMatch c
 else if c.kind=4 then okAverage c k else if c.kind=5 then okMix c k else if c.kind=6 then okRefine c k else false
def allOk(l:List C):Bool:=(List.range l.length).all fun i=>ok (l.getD i ⟨0,0,0,0,0,0⟩) (i:Int)
def check(l:List C):Int:=if l.length<1∨16<l.length then 6 else if allOk l=true then 0 else 22
end Go.Proofs.YthhgkafloejjiaaGreat.S14
namespace Go.Proofs.YthhgkafloejjiaaGreat.S14
def m1:Nat:=2654435769
def m2:Nat:=2246822519
def hash0(c n:Nat):Nat:=(c+n*m1)%4294967296*m2%4294967296
def hash(c n:Nat):Nat:=hash0 c n ^^^ hash0 c n/32768
theorem hash0_lt(c n:Nat):hash0 c n<4294967296:=Nat.mod_lt _ (by omega)
theorem hash_lt(c n:Nat):hash c n<4294967296:=by
 have a:=hash0_lt c n;have b:hash0 c n/32768<4294967296:=Nat.lt_of_le_of_lt (Nat.div_le_self _ _) a;exact Nat.xor_lt_two_pow (n:=32) a b
def index(c n bits:Nat):Nat:=hash c n/2^(32-bits)
theorem index_lt(c n:Nat){a:Nat}(h:a≤16):index c n a<2^a:=by
 unfold index;rw[Nat.div_lt_iff_lt_mul (Nat.two_pow_pos _),←Nat.pow_add,show a+(32-a)=32 by omega];exact hash_lt c n
def node(p:Nat):Nat:=if p<16 then p else 2^(p.log2-4)+p%2^(p.log2-4)
end Go.Proofs.YthhgkafloejjiaaGreat.S14
namespace Go.Proofs.YthhgkafloejjiaaGreat.S08
def check(p n limit:Int):Int:=
 if limit<1∨1023<limit then 2 else if p<0∨65535<p∨n<0∨limit<n then 3 else 0
def predict(p n:Int):Int:=if p<0∨65535<p∨n<0 then 0 else max (p/16) 1
def step(p n bit:Int):Int:=p+(2*(65535*bit-p)).tdiv (2*n+3)
def updateE(p n bit limit:Int):Int:=if check p n limit≠0 then check p n limit else if bit≠0∧bit≠1 then 1 else 0
def updateP(p n bit limit:Int):Int:=if updateE p n bit limit≠0 then 0 else step p n bit
def updateN(p n bit limit:Int):Int:=if updateE p n bit limit≠0 then 0 else min (n+1) limit
def updateV(p n bit limit:Int):Value:=.tuple #[.agg #[.int .i64 (updateP p n bit limit),.int .i64 (updateN p n bit limit)],.int .i64 (updateE p n bit limit)]
theorem updateV_err{p n bit a:Int}(h:updateE p n bit a≠0):updateV p n bit a = .tuple #[.agg #[.int .i64 0,.int .i64 0],.int .i64 (updateE p n bit a)]:=by
 unfold updateV updateP updateN;rw[if_pos h,if_pos h]
theorem updateV_ok{p n bit a:Int}(h:updateE p n bit a=0):updateV p n bit a = .tuple #[.agg #[.int .i64 (step p n bit),.int .i64 (min (n+1) a)],.int .i64 0]:=by
 unfold updateV updateP updateN;rw[if_neg (by omega),if_neg (by omega),h]
theorem check_ok{p n a:Int}(h:check p n a=0):1≤a∧a≤1023∧0≤p∧p≤65535∧0≤n∧n≤a:=by
 unfold check at h;split at h
 ·omega
 ·split at h<;>omega
theorem tdiv_bounds(a d:Int)(c:0<d):(0≤a→0≤a.tdiv d∧a.tdiv d*d≤a)∧(a≤0→a.tdiv d≤0∧a≤a.tdiv d*d):=by
 constructor
 ·intro h;rw[Int.tdiv_eq_ediv_of_nonneg h];exact⟨Int.ediv_nonneg h (by omega),by rw[Int.mul_comm];exact Int.mul_ediv_self_le (by omega)⟩
 ·intro h;have e:a.tdiv d = -((-a)/d):=by rw[←Int.tdiv_eq_ediv_of_nonneg (by omega),Int.neg_tdiv,Int.neg_neg]
  rw[e];have f:0≤(-a)/d:=Int.ediv_nonneg (by omega) (by omega);have b:d*((-a)/d)≤ -a:=Int.mul_ediv_self_le (by omega);refine⟨by omega,?_⟩;rw[Int.neg_mul,Int.mul_comm];omega
theorem step_between{p n bit:Int}(i:0≤p)(h:p≤65535)(l:0≤n)(j:bit=0∨bit=1) :
 (bit=1→p≤step p n bit∧step p n bit≤65535)∧(bit=0→0≤step p n bit∧step p n bit≤p):=by
 have c:0<2*n+3:=by omega
 obtain⟨f,b⟩:=tdiv_bounds (2*(65535*bit-p)) (2*n+3) c;unfold step;generalize k:(2*(65535*bit-p)).tdiv (2*n+3)=q at *;refine⟨fun d=> ?_,fun g=> ?_⟩
 ·subst d;obtain⟨a,e⟩:=f (by omega);have:q*3≤q*(2*n+3):=Int.mul_le_mul_of_nonneg_left (by omega) a;omega
 ·subst g;obtain⟨a,e⟩:=b (by omega);have:q*(2*n+3)≤q*3:=Int.mul_le_mul_of_nonpos_left a (by omega);omega
end Go.Proofs.YthhgkafloejjiaaGreat.S08
namespace Go.Proofs.YthhgkafloejjiaaGreat.S12
def eqAt(b:List Int)(p n:Nat):Bool:=b.getD (p-1-n) 0==b.getD (b.length-1-n) 0
def rep(b:List Int)(p:Nat):Nat:=((List.range (min 255 p)).takeWhile (eqAt b p)).length
theorem takeWhile_range(f:Nat→Bool)(m k:Nat)(d:k≤m)(b:∀i,i<k→f i=true)(a:k=m∨f k=false):((List.range m).takeWhile f).length=k:=by
 induction m generalizing k f with
 | zero=>obtain rfl:k=0:=by omega
         rfl
 | succ m c=>
   rw[List.range_succ_eq_map,List.takeWhile_cons];cases k with
   | zero=>rcases a with a|a
           ·omega
           ·rw[a];rfl
   | succ k=>
     rw[b 0 (by omega)];simp only[if_true,List.length_cons,List.takeWhile_map,List.length_map];rw[c (f∘Nat.succ) k (by omega) (fun i e=>b (i+1) (by omega)) (by rcases a with a|a;exact .inl (by omega);exact .inr a)]
theorem takeWhile_range_spec(f:Nat→Bool)(m:Nat):((List.range m).takeWhile f).length≤m∧(∀i,i<((List.range m).takeWhile f).length→f i=true)∧(((List.range m).takeWhile f).length=m∨f ((List.range m).takeWhile f).length=false):=by
 have e:∀(f:Nat→Bool) (m:Nat),∃k,k≤m∧(∀i,i<k→f i=true)∧(k=m∨f k=false):=fun f m=>by
  induction m with
  | zero=>exact⟨0,by omega,fun i d=>by omega,.inl rfl⟩
  | succ m g=>
    obtain⟨k,c,b,a⟩:=g;rcases a with a|a
    ·subst a;cases hf:f k with
     | true=>exact⟨k+1,by omega,fun i d=>by rcases Nat.lt_succ_iff_lt_or_eq.1 d with h|rfl;exact b i h;exact hf,.inl rfl⟩
     | false=>exact⟨k,by omega,b,.inr hf⟩
    ·exact⟨k,by omega,b,.inr a⟩
 obtain⟨k,c,b,a⟩:=e f m;rw[takeWhile_range f m k c b a];exact⟨c,b,a⟩
theorem rep_of{b:List Int}{p k:Nat}(d:k≤min 255 p)(c:∀i,i<k→eqAt b p i=true)(a:k=min 255 p∨eqAt b p k=false):rep b p=k:=takeWhile_range _ _ _ d c a
theorem rep_le(b:List Int)(p:Nat):rep b p≤min 255 p:=(takeWhile_range_spec _ _).1
theorem rep_eq(b:List Int)(p:Nat):∀i,i<rep b p→eqAt b p i=true:=(takeWhile_range_spec _ _).2.1
theorem rep_end(b:List Int)(p:Nat):rep b p=min 255 p∨eqAt b p (rep b p)=false:=(takeWhile_range_spec _ _).2.2
theorem le_rep{b:List Int}{p k:Nat}(d:k≤min 255 p)(c:∀i,i<k→eqAt b p i=true):k≤rep b p:=by
 rcases rep_end b p with h|h
 ·omega
 ·by_cases a:rep b p<k
  ·rw[c _ a]at h;cases h
  ·omega
def expFrom(x:Nat)(pt:Int):Nat→Option Nat
 | 0=>none
 | k+1=>if((256+x)/2^(k+1):Nat)=pt then some ((256+x)/2^k%2)else expFrom x pt k
def exp(x:Nat)(pt:Int):Option Nat:=expFrom x pt 8
structure M where
 bits:Int
 least:Int
 heads:List Int
 bytes:List Int
 at_:Int
 len:Int
 part:Int
 bit:Int
 ctrs:List (Int×Int)
def form(m:M):Bool:=decide (m.heads.length=2^m.bits.toNat)&&decide (m.ctrs.length=16)&&decide (1≤m.part∧m.part≤255)
def far(m:M):Bool:=m.heads.any fun h=> !decide (0≤h∧h≤m.bytes.length)
def bad(m:M):Bool:=m.ctrs.any fun c=>S08.check c.1 c.2 255 != 0
def matched(m:M):Bool:=
 if m.len=0 then decide (m.at_=0)&&decide (m.bit=2)
 else decide (1≤m.len∧m.len≤255)&&decide (m.len≤m.at_∧m.at_≤(m.bytes.length:Int)-1)&&decide (m.len≤(rep m.bytes m.at_.toNat:Int)) &&
  (match exp (m.bytes.getD m.at_.toNat 0).toNat m.part with|some b=>decide ((b:Int)=m.bit)|none=>false)
def check(m:M):Int:=
 if¬(1≤m.bits∧m.bits≤16)∨¬(1≤m.least∧m.least≤32)then 2
 else if 65536<m.bytes.length then 5
 else if form m=false then 3
 else if far m=true∨bad m=true∨matched m=false then 3 else 0
def predP(m:M):Int:=
 if check m≠0 then 0 else if m.len=0 then 2048
 else
  let c:=m.ctrs.getD (min m.len.toNat 15) (0,0)
  if m.bit=0 then 4096-S08.predict c.1 c.2 else S08.predict c.1 c.2
def predB(m:M):Bool:=decide (check m=0)&&decide (m.len≠0)
end Go.Proofs.YthhgkafloejjiaaGreat.S12
namespace Go.Proofs.YthhgkafloejjiaaGreat.S12
def expI(x:Int)(pt:Int):Int:=match exp x.toNat pt with|some b=>(b:Int)|none=>2
def factor:Nat:=2654435761
def hash(b:List Int):Nat:=b.foldl (fun h (x:Int)=>(h+x.toNat+1)*factor%4294967296) 0
def idx(b:List Int)(bits least:Int):Nat:=hash (b.drop (b.length-least.toNat))/2^(32-bits.toNat)
def learn(m:M)(b:Int):M:=
 if m.len=0 then m
 else if b=m.bit then {m with ctrs:=m.ctrs.set (min m.len.toNat 15) (S08.step (m.ctrs.getD (min m.len.toNat 15) (0,0)).1 (m.ctrs.getD (min m.len.toNat 15) (0,0)).2 1,min ((m.ctrs.getD (min m.len.toNat 15) (0,0)).2+1) 255)}
 else {m with ctrs:=m.ctrs.set (min m.len.toNat 15) (S08.step (m.ctrs.getD (min m.len.toNat 15) (0,0)).1 (m.ctrs.getD (min m.len.toNat 15) (0,0)).2 0,min ((m.ctrs.getD (min m.len.toNat 15) (0,0)).2+1) 255),at_:=0,len:=0}
def extend(m:M):M:=if 0<m.len then {m with at_:=m.at_+1,len:=min (m.len+1) 255}else m
def found(m:M):Bool:=decide (m.len=0)&&decide (0<m.heads.getD (idx m.bytes m.bits m.least) 0)&&decide (m.least≤(rep m.bytes (m.heads.getD (idx m.bytes m.bits m.least) 0).toNat:Int))
def search(m:M):M:=
 if(m.bytes.length:Int)<m.least then m
 else {m with
  at_:=if found m then m.heads.getD (idx m.bytes m.bits m.least) 0 else m.at_,
  len:=if found m then(rep m.bytes (m.heads.getD (idx m.bytes m.bits m.least) 0).toNat:Int)else m.len,
  heads:=m.heads.set (idx m.bytes m.bits m.least) m.bytes.length}
def take(m:M)(p:Int):M:=if 255<p then search (extend {m with bytes:=m.bytes ++ [p-256],part:=1})else {m with part:=p}
def expect(m:M):M:={m with bit:=if 0<m.len then expI (m.bytes.getD m.at_.toNat 0) m.part else 2}
def bitM(m:M)(b:Int):M:=expect (take (learn m b) (2*(learn m b).part+b))
def bitE(m:M)(b:Int):Int:=if check m≠0 then check m else if¬(0≤b∧b≤1)then 1 else if 128≤m.part∧65536≤m.bytes.length then 11 else 0
structure WF(m:M):Prop where
 bits:1≤m.bits∧m.bits≤16
 least:1≤m.least∧m.least≤32
 few:m.bytes.length≤65536
 heads:m.heads.length=2^m.bits.toNat
 ctrs:m.ctrs.length=16
 part:1≤m.part∧m.part≤255
 head:∀h∈m.heads,0≤h∧h≤m.bytes.length
 ctr:∀c∈m.ctrs,S08.check c.1 c.2 255=0
 mat:matched m=true
theorem check_iff(m:M):check m=0↔WF m:=by
 have d:far m=false↔∀h∈m.heads,0≤h∧h≤m.bytes.length:=by
  unfold far;rw[List.any_eq_false];simp
 have f:bad m=false↔∀c∈m.ctrs,S08.check c.1 c.2 255=0:=by
  unfold bad;rw[List.any_eq_false];simp
 have g:form m=true↔m.heads.length=2^m.bits.toNat∧m.ctrs.length=16∧1≤m.part∧m.part≤255:=by unfold form;simp[and_assoc]
 constructor
 ·intro h;unfold check at h;split at h
  ·cases h
  ·rename_i n
   split at h
   ·cases h
   ·rename_i j
    split at h
    ·cases h
    ·rename_i l
     split at h
     ·cases h
     ·rename_i k
      have i:form m=true:=by cases e:form m<;>simp_all
      obtain⟨a,b,c⟩:=g.1 i;refine⟨by omega,by omega,by omega,a,b,c,d.1 (by cases e:far m<;>simp_all),f.1 (by cases e:bad m<;>simp_all),by cases e:matched m<;>simp_all⟩
 ·intro h;unfold check;have:=h.bits;have:=h.least;have:=h.few;rw[if_neg (by omega),if_neg (by omega),if_neg (by rw[g.2 ⟨h.heads,h.ctrs,h.part⟩];simp),if_neg (by rw[d.2 h.head,f.2 h.ctr,h.mat];simp)]
theorem hash_lt(b:List Int):hash b<4294967296:=by
 have a:∀(b:List Int) (h:Nat),h<4294967296→b.foldl (fun h (x:Int)=>(h+x.toNat+1)*factor%4294967296) h<4294967296:=fun b=>by
  induction b with
  | nil=>exact fun h c=>c
  | cons x e d=>exact fun h _=>d _ (Nat.mod_lt _ (by omega))
 exact a b 0 (by omega)
theorem idx_lt(b:List Int){a:Int}(c:Int)(h:1≤a∧a≤16):idx b a c<2^a.toNat:=by
 unfold idx;rw[Nat.div_lt_iff_lt_mul (Nat.two_pow_pos _),←Nat.pow_add];have e:a.toNat+(32-a.toNat)=32:=by omega
 rw[e];exact hash_lt _
theorem exp_at{x pt n:Nat}(s:x<256)(r:n≤7)(j:2^n≤pt)(f:pt<2^(n+1)):exp x (pt:Int)=if(256+x)/2^(8-n)=pt then some (x/2^(7-n)%2)else none:=by
 have h:∀k,k≤8→expFrom x (pt:Int) k=if 8-n≤k∧(256+x)/2^(8-n)=pt then some (x/2^(7-n)%2)else none:=by
  intro k;induction k with
  | zero=>intro _;rw[if_neg (by omega)];rfl
  | succ k l=>
    intro q;have d:=l (by omega);unfold expFrom;by_cases g:k=7-n
    ·subst g;rw[show 7-n+1=8-n by omega];by_cases a:(256+x)/2^(8-n)=pt
     ·rw[if_pos (by exact_mod_cast a),if_pos ⟨Nat.le_refl _,a⟩]
      congr 1
      have:(256+x)/2^(7-n)=2^(n+1)+x/2^(7-n):=by
       have e:256=2^(n+1)*2^(7-n):=by rw[←Nat.pow_add,show n+1+(7-n)=8 by omega]
       rw[e,Nat.add_comm,Nat.add_mul_div_right _ _ (Nat.two_pow_pos _),Nat.add_comm]
      rw[this,Nat.pow_succ];omega
     ·rw[if_neg (by exact_mod_cast a),if_neg (by omega),d,if_neg (by omega)]
    ·have i:¬(256+x)/2^(k+1)=pt:=by
      intro a;have c:2^(7-k)≤(256+x)/2^(k+1):=by
       rw[Nat.le_div_iff_mul_le (Nat.two_pow_pos _),←Nat.pow_add,show 7-k+(k+1)=8 by omega];omega
      have b:(256+x)/2^(k+1)<2^(8-k):=by
       rw[Nat.div_lt_iff_lt_mul (Nat.two_pow_pos _),←Nat.pow_add,show 8-k+(k+1)=9 by omega];omega
      rw[a]at c b;have p:7-k<n+1:=(Nat.pow_lt_pow_iff_right (by omega:1<2)).1 (Nat.lt_of_le_of_lt c f);have o:n<8-k:=(Nat.pow_lt_pow_iff_right (by omega:1<2)).1 (Nat.lt_of_le_of_lt j b);omega
     rw[if_neg (by exact_mod_cast i),d];by_cases m:8-n≤k
     ·simp only[m,true_and,show 8-n≤k+1 by omega]
     ·rw[if_neg (by omega),if_neg (by omega)]
 have:=h 8 (by omega);unfold exp;rw[this];simp only[show 8-n≤8 by omega,true_and]
theorem log_of{pt:Nat}(e:1≤pt)(d:pt≤255):∃n,n≤7∧2^n≤pt∧pt<2^(n+1):=by
 have a:=Nat.log2_self_le (n:=pt) (by omega);have b:=Nat.lt_log2_self (n:=pt);have c:pt.log2<8:=(Nat.pow_lt_pow_iff_right (by omega:1<2)).1 (Nat.lt_of_le_of_lt a (by omega));exact⟨pt.log2,by omega,a,b⟩
end Go.Proofs.YthhgkafloejjiaaGreat.S12
namespace Go.Proofs.YthhgkafloejjiaaGreat.S12
theorem getD_in{α:Type}(l:List α)(d:α){i:Nat}(a:i<l.length):l.getD i d=l[i]:=by rw[List.getD,List.getElem?_eq_getElem a];rfl
theorem getD_out{α:Type}(l:List α)(d:α){i:Nat}(a:l.length≤i):l.getD i d=d:=by rw[List.getD,List.getElem?_eq_none a];rfl
theorem exp_inv{x pt b:Nat}(i:x<256)(g:1≤pt)(f:pt≤255)(d:exp x (pt:Int)=some b):∃n,n≤7∧2^n≤pt∧pt<2^(n+1)∧(256+x)/2^(8-n)=pt∧b=x/2^(7-n)%2:=by
 obtain⟨n,e,a,c⟩:=log_of g f;rw[exp_at i e a c]at d;split at d
 ·rename_i h
  exact⟨n,e,a,c,h,(Option.some.inj d).symm⟩
 ·cases d
theorem half_top{x n:Nat}(c:n≤7):(256+x)/2^(7-n)=2*((256+x)/2^(8-n))+x/2^(7-n)%2:=by
 have a:(256+x)/2^(7-n)=2^(n+1)+x/2^(7-n):=by
  have e:256=2^(n+1)*2^(7-n):=by rw[←Nat.pow_add,show n+1+(7-n)=8 by omega]
  rw[e,Nat.add_comm,Nat.add_mul_div_right _ _ (Nat.two_pow_pos _),Nat.add_comm]
 have b:(256+x)/2^(8-n)=(256+x)/2^(7-n)/2:=by rw[Nat.div_div_eq_div_mul,←Nat.pow_succ,show(7-n).succ=8-n by omega]
 rw[b,a,Nat.pow_succ];omega
theorem exp_next{x pt b:Nat}(a:x<256)(d:1≤pt)(g:pt≤127)(f:exp x (pt:Int)=some b):∃c,exp x ((2*pt+b:Nat):Int)=some c:=by
 obtain⟨n,e,k,j,l,rfl⟩:=exp_inv a d (by omega) f;have i:n≤6:=by
  have:2^n<2^7:=by omega
  have:=(Nat.pow_lt_pow_iff_right (by omega:1<2)).1 this;omega
 have h:=half_top (x:=x) e;have o:2^(n+1)=2*2^n:=by rw[Nat.pow_succ,Nat.mul_comm]
 have m:2^(n+1+1)=2*2^(n+1):=by rw[Nat.pow_succ,Nat.mul_comm]
 have:=Nat.mod_lt (x/2^(7-n)) (show 0<2 by omega);rw[exp_at (n:=n+1) a (by omega) (by omega) (by omega),if_pos (by rw[show 8-(n+1)=7-n by omega];omega)];exact⟨_,rfl⟩
theorem exp_full{x pt b:Nat}(f:x<256)(j:128≤pt)(a:pt≤255)(g:exp x (pt:Int)=some b):256+x=2*pt+b:=by
 obtain⟨n,k,i,h,d,rfl⟩:=exp_inv f (by omega) a g;have e:n=7:=by
  have:2^7<2^(n+1):=by omega
  have:=(Nat.pow_lt_pow_iff_right (by omega:1<2)).1 this;omega
 subst e;have c:=half_top (x:=x) (n:=7) (by omega);simp only[Nat.sub_self,Nat.pow_zero,Nat.div_one]at c d⊢;omega
theorem exp_first{x:Nat}(a:x<256):∃c,exp x (1:Int)=some c:=by
 have:=exp_at (x:=x) (pt:=1) (n:=0) a (by omega) (by omega) (by omega);rw[if_pos (by omega)]at this;exact⟨_,this⟩
theorem exp_lt{x:Nat}{pt:Int}{b:Nat}(h:exp x pt=some b):b<2:=by
 have a:∀k,expFrom x pt k=some b→b<2:=fun k=>by
  induction k with
  | zero=>intro h;cases h
  | succ k c=>
    intro h;unfold expFrom at h;split at h
    ·have:=Option.some.inj h;omega
    ·exact c h
 exact a 8 h
def Byt(l:List Int):Prop:=∀x∈l,0≤x∧x<256
theorem Byt.at{l:List Int}(h:Byt l)(i:Nat):(l.getD i 0).toNat<256:=by
 by_cases a:i<l.length
 ·rw[getD_in _ _ a];have:=h _ (List.getElem_mem a);omega
 ·rw[getD_out _ _ (by omega)];decide
theorem Byt.get{l:List Int}(h:Byt l)(i:Nat):0≤l.getD i 0:=by
 by_cases a:i<l.length
 ·rw[getD_in _ _ a];have:=h _ (List.getElem_mem a);omega
 ·rw[getD_out _ _ (by omega)];decide
structure Mat(m:M):Prop where
 len:1≤m.len∧m.len≤255
 at_:m.len≤m.at_∧m.at_≤(m.bytes.length:Int)-1
 rep:m.len≤(rep m.bytes m.at_.toNat:Int)
 exp:∃b:Nat,exp (m.bytes.getD m.at_.toNat 0).toNat m.part=some b∧m.bit=b
theorem matched_iff(m:M):matched m=true↔(m.len=0∧m.at_=0∧m.bit=2)∨Mat m:=by
 constructor
 ·intro h;unfold matched at h;split at h
  ·rename_i e
   simp at h;exact .inl ⟨e,h.1,h.2⟩
  ·rename_i e
   simp only[Bool.and_eq_true,decide_eq_true_eq]at h;obtain⟨⟨⟨c,a⟩,f⟩,d⟩:=h;refine .inr ⟨c,a,f,?_⟩;split at d
   ·rename_i b g
    exact⟨b,g,by simp at d;exact d.symm⟩
   ·cases d
 ·rintro(⟨e,c,a⟩|h)
  ·unfold matched;rw[if_pos e];simp[c,a]
  ·have:=h.len;unfold matched;rw[if_neg (by omega)];obtain⟨b,g,i⟩:=h.exp;rw[g];have c:=h.len;have a:=h.at_;have f:=h.rep;simp[c,a,f,i]
theorem getD_app(l:List Int)(x:Int)(i:Nat)(a:i<l.length):(l ++ [x]).getD i 0=l.getD i 0:=by
 rw[getD_in _ _ (by simp;omega),getD_in _ _ a,List.getElem_append_left a]
theorem getD_last(l:List Int)(x:Int):(l ++ [x]).getD l.length 0=x:=by
 rw[getD_in _ _ (by simp),List.getElem_append_right (Nat.le_refl _)];simp
theorem rep_extend{l:List Int}{x:Int}{p n:Nat}(a:p<l.length)(d:n≤rep l p)(b:l.getD p 0=x):min (n+1) 255≤rep (l ++ [x]) (p+1):=by
 have c:=rep_le l p;refine le_rep (by omega) (fun i e=> ?_);unfold eqAt;simp only[List.length_append,List.length_singleton,Nat.add_sub_cancel];cases i with
 | zero=>
   rw[Nat.sub_zero,Nat.sub_zero,getD_last,getD_app _ _ _ a,b];simp
 | succ i=>
   rw[getD_app _ _ _ (by omega),getD_app _ _ _ (by omega)];have:=rep_eq l p i (by omega);unfold eqAt at this;rw[show p-(i+1)=p-1-i by omega,show l.length-(i+1)=l.length-1-i by omega];exact this
theorem learn_ctr{c:Int×Int}(h:S08.check c.1 c.2 255=0){r:Int}(a:r=0∨r=1):S08.check (S08.step c.1 c.2 r) (min (c.2+1) 255) 255=0:=by
 have d:=S08.check_ok h;have b:=S08.step_between (p:=c.1) (n:=c.2) (bit:=r) (by omega) (by omega) (by omega) a;unfold S08.check;rw[if_neg (by omega),if_neg];rcases a with rfl|rfl
 ·have:=b.2 rfl;omega
 ·have:=b.1 rfl;omega
structure Lrn(m m':M)(b:Int):Prop where
 bits:m'.bits=m.bits
 least:m'.least=m.least
 heads:m'.heads=m.heads
 bytes:m'.bytes=m.bytes
 part:m'.part=m.part
 len:m'.ctrs.length=m.ctrs.length
 ctr:∀c∈m'.ctrs,S08.check c.1 c.2 255=0
 alt:(m'.len=0∧m'.at_=0)∨(m.len≠0∧b=m.bit∧m'.len=m.len∧m'.at_=m.at_)
theorem WF.at0{m:M}(h:WF m)(c:m.len=0):m.at_=0∧m.bit=2:=by
 rcases(matched_iff m).1 h.mat with⟨_,b,a⟩|h
 ·exact⟨b,a⟩
 ·have:=h.len;omega
theorem WF.Mat{m:M}(h:WF m)(a:m.len≠0):Mat m:=by
 rcases(matched_iff m).1 h.mat with⟨b,_⟩|h
 ·exact absurd b a
 ·exact h
theorem WF.learn{m:M}(h:WF m)(b:Int):Lrn m (learn m b) b:=by
 have g:∀(i:Nat) (r:Int),(r=0∨r=1)→∀c∈m.ctrs.set i (S08.step (m.ctrs.getD i (0,0)).1 (m.ctrs.getD i (0,0)).2 r,min ((m.ctrs.getD i (0,0)).2+1) 255),S08.check c.1 c.2 255=0:=fun i r e c d=>by
  rcases List.mem_or_eq_of_mem_set d with d|rfl
  ·exact h.ctr c d
  ·by_cases f:i<m.ctrs.length
   ·exact learn_ctr (h.ctr _ (by rw[getD_in _ _ f];exact List.getElem_mem f)) e
   ·rw[getD_out _ _ (by omega)];rcases e with rfl|rfl<;>decide
 unfold S12.learn;split
 ·rename_i a
  exact⟨rfl,rfl,rfl,rfl,rfl,rfl,h.ctr,.inl ⟨a,(h.at0 a).1⟩⟩
 ·rename_i a
  split
  ·rename_i j
   exact⟨rfl,rfl,rfl,rfl,rfl,List.length_set,g _ 1 (.inr rfl),.inr ⟨a,j,rfl,rfl⟩⟩
  ·exact⟨rfl,rfl,rfl,rfl,rfl,List.length_set,g _ 0 (.inl rfl),.inl ⟨rfl,rfl⟩⟩
theorem WF.bitM{m:M}(h:WF m)(C:Byt m.bytes){b:Int}(hb:b=0∨b=1)(B:bitE m b=0):WF (bitM m b):=by
 have af:=(check_iff m).2 h;have ak:¬(128≤m.part∧65536≤m.bytes.length):=by
  unfold bitE at B;rw[if_neg (by rw[af];simp),if_neg (by omega)]at B;split at B
  ·cases B
  ·assumption
 have Y:=h.learn b;have hp:=h.part;have an:=h.few;have ar:=h.bits;have aj:=h.least;unfold S12.bitM;generalize S12.learn m b=n at Y⊢;obtain⟨L,n2,P,s,n5,Z,I,T⟩:=Y;have ab:m.len≠0→S12.Mat m:=h.Mat;obtain⟨E,X⟩:∃E:Nat,m.part=E:=⟨m.part.toNat,by omega⟩;have K:∀c:Nat,m.bit=c→b=m.bit→2*m.part+b=((2*E+c:Nat):Int):=fun c h1 h2=>by omega
 by_cases aa:255<2*n.part+b
 ·unfold take;rw[if_pos aa];have ac:128≤E:=by omega
  have ap:m.bytes.length<65536:=by omega
  obtain⟨y,hy⟩:∃y,2*n.part+b-256=y:=⟨_,rfl⟩;rw[hy];have ae:0≤y∧y<256:=by omega
  have ag:Byt (m.bytes ++ [y]):=fun z v=>by
   rcases List.mem_append.1 v with v|v
   ·exact C z v
   ·rw[List.mem_singleton.1 v];exact ae
  have ad:∀i:Nat,∃c:Nat,exp ((m.bytes ++ [y]).getD i 0).toNat 1=some c:=fun i=>exp_first (ag.at i)
  have J:∀i:Nat,∃c:Nat,exp ((m.bytes ++ [y]).getD i 0).toNat 1=some c∧expI ((m.bytes ++ [y]).getD i 0) 1=c:=fun i=>by
   obtain⟨c,j⟩:=ad i;exact⟨c,j,by unfold expI;rw[j]⟩
  obtain⟨q,D⟩:∃q,extend {n with bytes:=n.bytes ++ [y],part:=1}=q:=⟨_,rfl⟩;rw[D];have qf:q.bits=m.bits∧q.least=m.least∧q.heads=m.heads∧q.bytes=m.bytes ++ [y]∧q.part=1∧q.ctrs=n.ctrs:=by
   rw[←D];unfold extend;split<;>simp[L,n2,P,s]
  have U:(q.len=0∧q.at_=0)∨(1≤q.len∧q.len≤255∧q.len≤q.at_∧q.at_≤m.bytes.length∧q.len≤(rep (m.bytes ++ [y]) q.at_.toNat:Int)):=by
   rw[←D];unfold extend;rcases T with⟨a,g⟩|⟨a,g,u,t⟩
   ·rw[if_neg (by simp only;omega)];exact .inl ⟨a,g⟩
   ·have k:=ab a;have b1:=k.len;have b2:=k.at_;have b3:=k.rep;rw[if_pos (by simp only;omega)];simp only;rw[u,t];obtain⟨c,j,G⟩:=k.exp;have ai:m.bytes.getD m.at_.toNat 0=y:=by
     have:=exp_full (C.at m.at_.toNat) ac (by omega) (by rw[←X];exact j);have:=K c G g;have:=C.get m.at_.toNat;omega
    have al:=rep_extend (l:=m.bytes) (x:=y) (p:=m.at_.toNat) (n:=m.len.toNat) (by omega) (by omega) ai;refine .inr ⟨by omega,by omega,by omega,by omega,?_⟩;rw[show(m.at_+1).toNat=m.at_.toNat+1 by omega];omega
  clear D K;obtain⟨F,R,N,f,o,Q⟩:=qf;have W:q.ctrs.length=16:=by rw[Q,Z];exact h.ctrs
  have H:∀x∈q.heads,0≤x∧x≤(m.bytes.length:Int):=by rw[N];exact h.head
  unfold search;split
  ·refine⟨by simpa[expect,F] using h.bits,by simpa[expect,R] using h.least,by simp[expect,f];omega,by simp[expect,F,N];exact h.heads,by simpa[expect] using W,by simp[expect,o],?_,by simpa[expect,Q] using I,?_⟩
   ·simp only[expect,f,List.length_append,List.length_singleton];intro x w;have:=H x w;omega
   ·rw[matched_iff];rcases U with⟨a,g⟩|⟨a,g,u,t,O⟩
    ·exact .inl ⟨a,g,by simp[expect,a]⟩
    ·refine .inr ⟨⟨a,g⟩,⟨u,by simp[expect,f];omega⟩,by simpa[expect,f] using O,?_⟩;obtain⟨c,j,A⟩:=J q.at_.toNat;refine⟨c,by simp only[expect,f,o];exact j,?_⟩;simp only[expect,f,o];rw[if_pos (by omega)];exact A
  ·have aq:=idx_lt (m.bytes ++ [y]) m.least h.bits;refine⟨by simpa[expect,F] using h.bits,by simpa[expect,R] using h.least,by simp[expect,f];omega,by simp[expect,F,N];exact h.heads,by simpa[expect] using W,by simp[expect,o],?_,by simpa[expect,Q] using I,?_⟩
   ·simp only[expect,f,List.length_append,List.length_singleton];intro x w;rcases List.mem_or_eq_of_mem_set w with w|rfl
    ·have:=H x w;omega
    ·omega
   ·rw[matched_iff];simp only[expect];obtain⟨r,S⟩:∃r,q.heads.getD (idx q.bytes q.bits q.least) 0=r:=⟨_,rfl⟩;have am:r≤(m.bytes.length:Int):=by
     rw[←S];by_cases V:idx q.bytes q.bits q.least<q.heads.length
     ·rw[getD_in _ _ V];exact(H _ (List.getElem_mem V)).2
     ·rw[getD_out _ _ (by omega)];omega
    cases hf:found q with
    | true=>
      unfold found at hf;rw[S]at hf;simp only[Bool.and_eq_true,decide_eq_true_eq]at hf;obtain⟨⟨f1,f2⟩,f3⟩:=hf;have ah:=rep_le q.bytes r.toNat;have ao:1≤q.least:=by rw[R];exact aj.1
      simp only[if_true,S];rw[f]at f3 ah;refine .inr ⟨by simp only[f];omega,by simp only[f,List.length_append,List.length_singleton];omega,by simp only[f];omega,?_⟩;obtain⟨c,j,A⟩:=J r.toNat;refine⟨c,by simp only[f,o];exact j,?_⟩;simp only[f,o];rw[if_pos (by omega)];exact A
    | false=>
      simp only[Bool.false_eq_true,if_false];rcases U with⟨a,g⟩|⟨a,g,u,t,O⟩
      ·exact .inl ⟨a,g,by simp[a]⟩
      ·refine .inr ⟨⟨a,g⟩,⟨u,by simp[f];omega⟩,by simpa[f] using O,?_⟩;obtain⟨c,j,A⟩:=J q.at_.toNat;refine⟨c,by simp only[f,o];exact j,?_⟩;simp only[f,o];rw[if_pos (by omega)];exact A
 ·unfold take;rw[if_neg aa];refine⟨by simpa[expect,L] using h.bits,by simpa[expect,n2] using h.least,by simpa[expect,s] using h.few,by simp[expect,L,P];exact h.heads,by simp[expect,Z];exact h.ctrs,by simp only[expect];omega,by simp only[expect,P,s];exact h.head,by simpa[expect] using I,?_⟩;rw[matched_iff];simp only[expect];rcases T with⟨a,g⟩|⟨a,g,u,t⟩
  ·exact .inl ⟨a,g,by simp[a]⟩
  ·have k:=ab a;have b1:=k.len;have b2:=k.at_;have b3:=k.rep;obtain⟨c,j,G⟩:=k.exp;rw[X]at j;obtain⟨d,r⟩:=exp_next (C.at m.at_.toNat) (by omega) (by omega) j;have e:=K c G g;rw[n5];refine .inr ⟨by simp only;omega,by simp only[s];omega,by simp only[s,u,t];exact b3,d,?_,?_⟩
   ·simp only[s,t];rw[e];exact r
   ·simp only[s,t];rw[if_pos (by omega)];unfold expI;rw[e,r]
end Go.Proofs.YthhgkafloejjiaaGreat.S12
namespace Go.Proofs.YthhgkafloejjiaaGreat.S12
theorem learn_bits(m:M)(b:Int):(learn m b).bits=m.bits∧(learn m b).least=m.least∧(learn m b).bytes=m.bytes∧(learn m b).part=m.part∧(learn m b).heads=m.heads:=by
 unfold learn;split
 ·exact⟨rfl,rfl,rfl,rfl,rfl⟩
 ·split<;>exact⟨rfl,rfl,rfl,rfl,rfl⟩
theorem bitE_ok{m:M}(h:WF m){b:Int}(a:b=0∨b=1)(c:m.bytes.length<65536):bitE m b=0:=by
 unfold bitE;rw[if_neg (by rw[(check_iff m).2 h];simp),if_neg (by omega),if_neg (by omega)]
theorem half(x k:Nat):(256+x)/2^k=2*((256+x)/2^(k+1))+(256+x)/2^k%2:=by
 rw[Nat.pow_succ,←Nat.div_div_eq_div_mul];omega
end Go.Proofs.YthhgkafloejjiaaGreat.S12
namespace Go.Proofs.YthhgkafloejjiaaGreat.S12
end Go.Proofs.YthhgkafloejjiaaGreat.S12
namespace Go.Proofs.YthhgkafloejjiaaGreat.S12
end Go.Proofs.YthhgkafloejjiaaGreat.S12
