/- A part of the proof of L14l. No condition. -/
import Derived.Test.YthhgkafloejjiaaGreatShelf
import Derived.Test.YthhgkafloejjiaaGreatZL14lak
import Derived.Test.YthhgkafloejjiaaGreatZL14lao
set_option linter.all false
set_option maxRecDepth 100000
set_option maxHeartbeats 2000000
namespace Go.Proofs.YthhgkafloejjiaaGreat
open Go.RowKit
theorem zmV:Elems Tryz.prog 37 143 2 16 [.int .i64 0,.int .i64 0]:=⟨Tryz.underlying37,by kernel_rfl,rfl,by decide⟩
def S08.fresh(n:Nat):List Value:=(List.replicate n [Value.int .i64 32768,Value.int .i64 0]).flatten
theorem S08.fresh_length(n:Nat):(S08.fresh n).length=n*2:=by simp[S08.fresh]
theorem S08.fresh_add(m n:Nat):S08.fresh (m+n)=S08.fresh m++S08.fresh n:=by
 rw[S08.fresh,←List.replicate_append_replicate,List.flatten_append];rfl
def S08.tableLen(n:Int):Nat:=if n<1∨65536<n then 0 else n.toNat
def S08.tableErr(n:Int):Int:=if n<1∨65536<n then 2 else 0
theorem znT{a:List Value}{k m n:Nat}(c:a.length=n*2)(b:a.take (k*2)=S08.fresh k)(d:k+m≤n):(splice a (k*2) (S08.fresh m)).take ((k+m)*2)=S08.fresh (k+m):=by
 unfold splice;rw[b,←List.append_assoc,←S08.fresh_add];exact List.take_left' (by rw[S08.fresh_length])
theorem fresh_take{a:List Value}{k m:Nat}(b:a.take (k*2)=S08.fresh k)(e:m≤k):a.take (m*2)=S08.fresh m:=by
 obtain⟨d,rfl⟩:∃d,k=m+d:=⟨k-m,by omega⟩;have c:(a.take ((m+d)*2)).take (m*2)=a.take (m*2):=by rw[List.take_take,Nat.min_eq_left om]
 rw[←c,b,S08.fresh_add];exact List.take_left' (by rw[S08.fresh_length])
theorem fresh_rd{w:World}{b:Nat}{c:List Value}{t:TypeId}{k m:Nat}(f:Blk w b c t)(d:c.take (k*2)=S08.fresh k)(e:m≤k):Rd w (some ⟨b,0,none⟩) (S08.fresh m):=fun _=>by
 refine⟨b,0,rfl,fun j v a=> ?_⟩;rw[yE,f.cell];rw[←fresh_take d e,zbG]at a;split at a
 ·exact a
 ·cases a
theorem repeat08_any(n:Nat)(a:Option Addr)(c:Nat)(w:World)(hn:n≤65536)(B:Rd w a [.int .i64 32768,.int .i64 0]) :
 Calls Tryz.prog 172 #[.slice a 1 c,n] w fun e A=>∃b S,e = .returned (.slice (some ⟨b,0,none⟩) n S)∧w.heap.size≤b∧Rd A (some ⟨b,0,none⟩) (S08.fresh n)∧Below w w A:=by
 have z:1*n/18446744073709551616=0:=by omega
 have ae:1*n%18446744073709551616=n:=by omega
 have q:=fun W=>Tryz.bits_Mul 1 n om om W;simp only[z,ae]at q;have Q:=zC q;clear q;have al:IntKind.u64.wrap (n:Int)=n:=by rw[IntKind.wrap_u64];omega
 have aj:IntKind.i64.wrap (n:Int)=n:=IntWalk.i64_in _ om;go_enter Tryz.func172,Tryz.ntmps172;go_wp2_with fail;refine(Q.out _).mono ?_;rintro e d ⟨rfl,rfl⟩;have x:∀(m:Nat),∀u∈S08.fresh m,u.oneCell'=true:=by
  intro m u g;simp only[S08.fresh,List.mem_flatten,List.mem_replicate]at g;obtain⟨l,⟨_,rfl⟩,g⟩:=g;simp at g;rcases g with rfl|rfl<;>rfl
 have I:∀W,Below d d W→Rd W a (S08.fresh (min 1 n)):=fun W hb=>by
  rcases zdV n with p|p
  ·subst p;exact Rd.nil _ _
  ·rw[Nat.min_eq_left p];exact B.step hb
 have T:=zC I;clear I B;have af:min 1 n≤n:=by omega
 go_wp2_with (at_make;refine zpJ (.tmp 29) 37 143 2 16 _ zmV rfl rfl .i64 n rfl om by5 ?_;intro j Z r t ac o);rw[zjK (P:=Tryz.prog) j 37 37 3 143 2 Tryz.underlying37 zk d.heap.size 0 n n a 1 c (min 1 n) rfl (S08.fresh (min 1 n)) (S08.fresh_length _) (T.out _ o) (there_blk r 0 _ (by rw[S08.fresh_length];omega)) (x _)];have y:=r.setCells (S08.fresh (min 1 n)) 0 (by rw[S08.fresh_length];omega);have O:Below d d (j.setCells d.heap.size 0 (S08.fresh (min 1 n))):=o.trans (zeU (zF _) _ _ _);have N:(splice Z 0 (S08.fresh (min 1 n))).length=n*2:=by rw[length_splice _ _ _ (by rw[S08.fresh_length];omega)];exact t
 have G:(splice Z 0 (S08.fresh (min 1 n))).take (min 1 n*2)=S08.fresh (min 1 n):=by
  have:=znT (k:=0) (m:=min 1 n) t rfl om;rw[Nat.zero_mul,yE]at this;exact this
 generalize j.setCells d.heap.size 0 (S08.fresh (min 1 n))=w3 at *;generalize splice Z 0 (S08.fresh (min 1 n))=U at *;obtain⟨H3,R⟩:=zh2 G y;clear G y r t o ac;go_wp2_with fail
 go_loopw [8] (fun v8 wr=>∃(k:Nat) (f:List Value),k≤n∧(n=0∨1≤k)∧v8 = .int .i64 k∧Blk wr d f 143∧f.length=n*2∧f.take (k*2)=S08.fresh k∧Below d d wr)
  (fun v8 _=>n-(intOf v8).toNat)
 case atStart=>exact⟨min 1 n,U,af,by omega,rfl,R.out,N,H3.out,O⟩
 case round=>
  obtain⟨k,f,hk,ak,rfl,M,J,H,s⟩:=hrel;obtain⟨h,i⟩:=zh2 M H;clear M H;have zr:d.heap.size≤wr.heap.size:=s.size;by_cases ai:k<n
  ·have ah:(k:Int)<(n:Int):=by omega
   have ag:¬(k:Int)<0:=by omega
   have an:¬n=k:=by omega
   obtain⟨m,E⟩:∃m,m=min k (n-k):=⟨_,rfl⟩;have z:1≤m:=by omega
   have ad:m≤k:=by omega
   have C:k+m≤n:=by omega
   go_wp2_with fail;refine zrM 7 3 _ _ zk (zU 7 _).symm rfl rfl zk (fun Y F hY D=> ?_);simp only[ltc,ltz,ldc,ldz]
   repeat
    apply wpPure_value (by rw[hY];rfl)
    ·intro j;go_simp;with_reducible rfl
    simp only[zvF]
   refine D.out _ (fun K hK=> ?_);clear D hY;simp only[ldc,ldz];go_wp2_with fail;rw[zjK (P:=Tryz.prog) wr.drew 37 37 3 143 2 Tryz.underlying37 zk d.heap.size (k*2) (n-k) (n-k) (some ⟨d,0,none⟩) k n m E (S08.fresh m) (S08.fresh_length _) (fresh_rd h.out.drew i.out ad) (there_blk h.out.drew (k*2) _ (by rw[S08.fresh_length];omega)) (x _)];have v:=h.out.drew.setCells (S08.fresh m) (k*2) (by rw[S08.fresh_length];omega);have ab:Below d d (wr.drew.setCells d.heap.size (k*2) (S08.fresh m)):=s.drew.trans (zeU (zF _) _ _ _);have X:(splice f (k*2) (S08.fresh m)).length=n*2:=by rw[length_splice _ _ _ (by rw[S08.fresh_length];omega)];exact J
   have L:=znT J i.out C;generalize wr.drew.setCells d.heap.size (k*2) (S08.fresh m)=w4 at *;generalize splice f (k*2) (S08.fresh m)=V at *;obtain⟨H4,aa⟩:=zh2 L v;clear L v h i E;have am:IntKind.i64.wrap ((k:Int)+(m:Int))=((k+m:Nat):Int):=by rw[IntWalk.i64_in _ om];omega
   go_wp2_with fail;refine mok hK ?_
   change _∧_
   go_roundw
   case rel=>exact⟨k+m,V,C,by omega,by go_num,aa.out,X,H4.out,ab⟩
   case measure=>simp[intOf];omega
  ·obtain rfl:k=n:=by omega
   go_wp2;go_returns;have e:f=S08.fresh k:=by rw[←i.out,List.take_of_length_le om]
   subst e;exact⟨_,_,rfl,by first|exact zF _|(simp;done)|(simp;omega),fun _=>⟨_,0,rfl,h.out.cells⟩,s⟩
theorem table08_any(n:Int)(w:World)(t : -9223372036854775808≤n)(r:n≤9223372036854775807) :
 Calls Tryz.prog 165 #[n] w fun e f=>∃a g,e = .returned (.tuple #[.slice a (S08.tableLen n) g,(S08.tableErr n)])∧(∀b o,a=some ⟨b,o,none⟩→w.heap.size≤b)∧Rd f a (S08.fresh (S08.tableLen n))∧Below w w f:=by
 by_cases v:n<1
 ·have d:S08.tableLen n=0:=by unfold S08.tableLen;rw[zQ om]
  have c:S08.tableErr n=2:=by unfold S08.tableErr;rw[zQ om]
  rw[d,c];go_enter Tryz.func165,Tryz.ntmps165;go_wp2;go_returns;first|exact⟨none,0,rfl,(fun _ _ e=>(by cases e)),Rd.nil _ _,by go_grown⟩|exact⟨none,⟨0,rfl⟩,(fun _ _ e=>(by cases e)),Rd.nil _ _,by go_grown⟩
 by_cases q:65536<n
 ·have d:S08.tableLen n=0:=by unfold S08.tableLen;rw[zQ om]
  have c:S08.tableErr n=2:=by unfold S08.tableErr;rw[zQ om]
  rw[d,c];go_enter Tryz.func165,Tryz.ntmps165;go_wp2;go_returns;first|exact⟨none,0,rfl,(fun _ _ e=>(by cases e)),Rd.nil _ _,by go_grown⟩|exact⟨none,⟨0,rfl⟩,(fun _ _ e=>(by cases e)),Rd.nil _ _,by go_grown⟩
 obtain⟨m,rfl⟩:∃m:Nat,n=m:=⟨n.toNat,by omega⟩;have k:m≤65536:=by omega
 have d:S08.tableLen (m:Int)=m:=by simp only[S08.tableLen];rw[zG om];omega
 have c:S08.tableErr (m:Int)=0:=by simp only[S08.tableErr];rw[zG om]
 rw[d,c];go_enter Tryz.func165,Tryz.ntmps165;go_wp2_with fail;refine(repeat08_any m _ _ _ k (Rd.new w [.int .i64 32768,.int .i64 0] 143)).mono ?_;rintro e h ⟨u,s,rfl,i,l,j⟩;have p:Below w w h:=zA zo j;rw[zY]at i;go_wp2_with fail;go_returns;exact⟨_,_,rfl,fun b o e=>by cases e;omega,l,p⟩
