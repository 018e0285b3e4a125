/- A part of the proof of L14s. No condition. -/
import Derived.Test.YtieeogndnhighaaGreatShelf
import Derived.Test.YtieeogndnhighaaGreatZL14sal
import Derived.Test.YtieeogndnhighaaGreatZL14sap
set_option linter.all false
set_option maxRecDepth 100000
set_option maxHeartbeats 2000000
namespace Go.Proofs.YtieeogndnhighaaGreat
open Go.RowKit
theorem znR:Elems Tryz.prog 73 170 2 16 [.int .i64 0,.int .i64 0]:=⟨Tryz.underlying73,by kernel_rfl,rfl,by decide⟩
def S08.fresh(n:Nat):List Value:=(List.replicate n [Value.int .i64 32768,Value.int .i64 0]).flatten
theorem S08.fresh_length(n:Nat):(S08.fresh n).length=n*2:=by simp[S08.fresh]
theorem S08.fresh_add(m n:Nat):S08.fresh (m+n)=S08.fresh m++S08.fresh n:=by
 rw[S08.fresh,←List.replicate_append_replicate,List.flatten_append];rfl
theorem S08.fresh_succ(n:Nat):S08.fresh (n+1)=S08.fresh n ++ [.int .i64 32768,.int .i64 0]:=by
 rw[S08.fresh_add];rfl
def S08.tableLen(n:Int):Nat:=if n<1∨65536<n then 0 else n.toNat
def S08.tableErr(n:Int):Int:=if n<1∨65536<n then 2 else 0
theorem refTable08_any(n:Int)(w:World)(hn : -9223372036854775808≤n)(hn':n≤9223372036854775807) :
 Calls Tryz.prog 68 #[.int .i64 n] w fun e w'=>∃a cap,e = .returned (.tuple #[.slice a (S08.tableLen n) cap,.int .i64 (S08.tableErr n)])∧
  w'.ownsRow w.heap.size 170 2 (.slice a (S08.tableLen n) cap) (S08.tableLen n) (S08.fresh (S08.tableLen n))∧Below w.heap.size w w':=by
 by_cases h1:n<1
 ·go_enter Tryz.func68,Tryz.ntmps68;go_wp2;go_returns;simp only[S08.tableLen,S08.tableErr,h1,true_or,if_true];exact⟨none,0,rfl,⟨by simp[S08.fresh],.inl ⟨rfl,rfl⟩⟩,by go_grown⟩
 by_cases h2:65536<n
 ·go_enter Tryz.func68,Tryz.ntmps68;go_wp2;go_returns;simp only[S08.tableLen,S08.tableErr,h2,or_true,if_true];exact⟨none,0,rfl,⟨by simp[S08.fresh],.inl ⟨rfl,rfl⟩⟩,by go_grown⟩
 obtain⟨m,rfl⟩:∃m:Nat,n=m:=⟨n.toNat,by omega⟩;have hm:m≤65536:=by omega
 have hLen:S08.tableLen (m:Int)=m:=by simp only[S08.tableLen];rw[zR (by omega)];omega
 have hErr:S08.tableErr (m:Int)=0:=by simp only[S08.tableErr];rw[zR (by omega)]
 rw[hLen,hErr];go_enter Tryz.func68,Tryz.ntmps68;go_wp2_with fail
 go_loopw [4,5] (fun v4 i wr=>∃(k:Nat) (a4:Option Addr) (c4:Nat),k≤m∧i = .int .i64 k∧v4 = .slice a4 k c4∧wr.ownsRow w.heap.size 170 2 (.slice a4 k c4) k (S08.fresh k)∧Below w.heap.size w wr)
  (fun _ i _=>m-(intOf i).toNat)
 case atStart=>exact⟨0,none,0,by omega,rfl,rfl,⟨by simp[S08.fresh],.inl ⟨rfl,rfl⟩⟩,by go_grown⟩
 case round=>
  obtain⟨k,a4,c4,hk,rfl,rfl,hown,hB⟩:=hrel;have zr:w.heap.size≤wr.heap.size:=hB.size;have Hown:=zD hown;clear hown;by_cases hlt:k<m
  ·have hl4:(k:Int)<(m:Int):=by omega
   go_wp2_with (at_builtin;refine zgC (.tmp 17) (.tmp 19) 73 170 2 16 _ w.heap.size znR rfl rfl (.slice a4 k c4) k (S08.fresh k) rfl (Hown.out.alloc _) (some ⟨wr.heap.size,0,none⟩) 1 1 [.int .i64 32768,.int .i64 0] rfl rfl (Rd.new wr [.int .i64 32768,.int .i64 0] 170) (by simp[Value.oneCell']) (by unfold maxLen;omega) (by omega) (by simp;omega) ?_;intro a4' c4' w4 hown4 hgrow4 hat4;have hB4:Below w.heap.size w w4:=Below.grown (by go_grown) hgrow4 (by simp;omega) (fun k e=>(Hown.out.lt k e).1);rw[←S08.fresh_succ]at hown4;have Hown4:=zD hown4;clear hown4 hgrow4 hat4);go_roundw
   case rel=>exact⟨k+1,a4',c4',by omega,by go_num,rfl,Hown4.out,hB4⟩
   case measure=>simp[intOf];omega
  ·obtain rfl:k=m:=by omega
   go_wp2;go_returns;exact⟨a4,c4,rfl,Hown.out,hB⟩
theorem zjH{cs:List Value}{k m n:Nat}(hl:cs.length=n*2)(ht:cs.take (k*2)=S08.fresh k)(hf:k+m≤n):(splice cs (k*2) (S08.fresh m)).take ((k+m)*2)=S08.fresh (k+m):=by
 unfold splice;rw[ht,←List.append_assoc,←S08.fresh_add];exact List.take_left' (by rw[S08.fresh_length])
theorem fresh_take{cs:List Value}{k m:Nat}(ht:cs.take (k*2)=S08.fresh k)(hm:m≤k):cs.take (m*2)=S08.fresh m:=by
 obtain⟨d,rfl⟩:∃d,k=m+d:=⟨k-m,by omega⟩;have h1:(cs.take ((m+d)*2)).take (m*2)=cs.take (m*2):=by rw[List.take_take,Nat.min_eq_left (by omega)]
 rw[←h1,ht,S08.fresh_add];exact List.take_left' (by rw[S08.fresh_length])
theorem fresh_rd{w:World}{b:Nat}{cs:List Value}{t:TypeId}{k m:Nat}(hb:Blk w b cs t)(ht:cs.take (k*2)=S08.fresh k)(hm:m≤k):Rd w (some ⟨b,0,none⟩) (S08.fresh m):=fun _=>by
 refine⟨b,0,rfl,fun j v hv=> ?_⟩;rw[yP,hb.cell];rw[←fresh_take ht hm,List.getElem?_take]at hv;split at hv
 ·exact hv
 ·cases hv
theorem repeat08_any(n:Nat)(a:Option Addr)(c:Nat)(w:World)(hn:n≤65536)(hrd:Rd w a [.int .i64 32768,.int .i64 0]) :
 Calls Tryz.prog 203 #[.slice a 1 c,.int .i64 n] w fun e w'=>∃b cap,e = .returned (.slice (some ⟨b,0,none⟩) n cap)∧w.heap.size≤b∧Rd w' (some ⟨b,0,none⟩) (S08.fresh n)∧Below w.heap.size w w':=by
 have hm1:1*n/18446744073709551616=0:=by omega
 have hm2:1*n%18446744073709551616=n:=by omega
 have hmul:=fun W=>Tryz.bits_Mul 1 n (by omega) (by omega) W;simp only[hm1,hm2]at hmul;have Hmul:=zD hmul;clear hmul;have hw1:IntKind.u64.wrap (n:Int)=n:=by rw[IntKind.wrap_u64];omega
 have hw2:IntKind.i64.wrap (n:Int)=n:=IntWalk.i64_in _ (by omega);go_enter Tryz.func203,Tryz.ntmps203;go_wp2_with fail;refine(Hmul.out _).mono ?_;rintro e w1 ⟨rfl,rfl⟩;have hone:∀(m:Nat),∀u∈S08.fresh m,u.oneCell'=true:=by
  intro m u hu;simp only[S08.fresh,List.mem_flatten,List.mem_replicate]at hu;obtain⟨l,⟨_,rfl⟩,hu⟩:=hu;simp at hu;rcases hu with rfl|rfl<;>rfl
 have hrd1:∀W,Below w1.heap.size w1 W→Rd W a (S08.fresh (min 1 n)):=fun W hb=>by
  rcases zdI n with h0|h0
  ·subst h0;exact Rd.nil _ _
  ·rw[Nat.min_eq_left h0];exact hrd.step hb
 have Hrd1:=zD hrd1;clear hrd1 hrd;have hmin:min 1 n≤n:=by omega
 go_wp2_with (at_make;refine zkR (.tmp 29) 73 170 2 16 _ znR rfl rfl .i64 n rfl (by omega) (by unfold maxLen;omega) ?_;intro w2 Z hZ hZl hs2 hb2);rw[zdT (P:=Tryz.prog) w2 73 73 3 170 2 Tryz.underlying73 (by kernel_rfl) w1.heap.size 0 n n a 1 c (min 1 n) rfl (S08.fresh (min 1 n)) (S08.fresh_length _) (Hrd1.out _ hb2) (there_blk hZ 0 _ (by rw[S08.fresh_length];omega)) (hone _)];have hZ3:=hZ.setCells (S08.fresh (min 1 n)) 0 (by rw[S08.fresh_length];omega);have hB3:Below w1.heap.size w1 (w2.setCells w1.heap.size 0 (S08.fresh (min 1 n))):=hb2.trans (zcT (zF _) _ _ _);have hl3:(splice Z 0 (S08.fresh (min 1 n))).length=n*2:=by rw[length_splice _ _ _ (by rw[S08.fresh_length];omega)];exact hZl
 have ht3:(splice Z 0 (S08.fresh (min 1 n))).take (min 1 n*2)=S08.fresh (min 1 n):=by
  have:=zjH (k:=0) (m:=min 1 n) hZl rfl (by omega);rw[Nat.zero_mul,yP]at this;exact this
 generalize w2.setCells w1.heap.size 0 (S08.fresh (min 1 n))=w3 at *;generalize splice Z 0 (S08.fresh (min 1 n))=cs3 at *;have H3:=zD ht3;have HZ3:=zD hZ3;clear ht3 hZ3 hZ hZl hb2 hs2;go_wp2_with fail
 go_loopw [8] (fun v8 wr=>∃(k:Nat) (cs:List Value),k≤n∧(n=0∨1≤k)∧v8 = .int .i64 k∧Blk wr w1.heap.size cs 170∧cs.length=n*2∧cs.take (k*2)=S08.fresh k∧Below w1.heap.size w1 wr)
  (fun v8 _=>n-(intOf v8).toNat)
 case atStart=>exact⟨min 1 n,cs3,hmin,by omega,rfl,HZ3.out,hl3,H3.out,hB3⟩
 case round=>
  obtain⟨k,cs,hk,hk1,rfl,hblk,hl,ht,hB⟩:=hrel;have Hblk:=zD hblk;have Ht:=zD ht;clear hblk ht;have zr:w1.heap.size≤wr.heap.size:=hB.size;by_cases hlt:k<n
  ·have hl4:(k:Int)<(n:Int):=by omega
   have hk0:¬(k:Int)<0:=by omega
   have hne:¬n=k:=by omega
   obtain⟨m,hmdef⟩:∃m,m=min k (n-k):=⟨_,rfl⟩;have hm1:1≤m:=by omega
   have hmk:m≤k:=by omega
   have hmn:k+m≤n:=by omega
   go_wp2_with fail;refine zmJ 7 3 _ _ (by kernel_rfl) (zaS 7 _).symm rfl rfl (by kernel_rfl) (fun Y F hY hF=> ?_);simp only[ltc,ltz,ldc,ldz]
   repeat
    apply wpPure_value (by rw[hY];rfl)
    ·intro w2;go_simp;with_reducible rfl
    simp only[zpA]
   refine hF.out _ (fun K hK=> ?_);clear hF hY;simp only[ldc,ldz];go_wp2_with fail;rw[zdT (P:=Tryz.prog) wr.drew 73 73 3 170 2 Tryz.underlying73 (by kernel_rfl) w1.heap.size (k*2) (n-k) (n-k) (some ⟨w1.heap.size,0,none⟩) k n m hmdef (S08.fresh m) (S08.fresh_length _) (fresh_rd Hblk.out.drew Ht.out hmk) (there_blk Hblk.out.drew (k*2) _ (by rw[S08.fresh_length];omega)) (hone _)];have hZ4:=Hblk.out.drew.setCells (S08.fresh m) (k*2) (by rw[S08.fresh_length];omega);have hB4:Below w1.heap.size w1 (wr.drew.setCells w1.heap.size (k*2) (S08.fresh m)):=hB.drew.trans (zcT (zF _) _ _ _);have hl5:(splice cs (k*2) (S08.fresh m)).length=n*2:=by rw[length_splice _ _ _ (by rw[S08.fresh_length];omega)];exact hl
   have ht4:=zjH hl Ht.out hmn;generalize wr.drew.setCells w1.heap.size (k*2) (S08.fresh m)=w4 at *;generalize splice cs (k*2) (S08.fresh m)=cs4 at *;have H4:=zD ht4;have HZ4:=zD hZ4;clear ht4 hZ4 Hblk Ht hmdef;have hwr:IntKind.i64.wrap ((k:Int)+(m:Int))=((k+m:Nat):Int):=by rw[IntWalk.i64_in _ (by omega)];omega
   go_wp2_with fail;refine OnlyK.mk (hK.out _ _ ?_)
   change _∧_
   go_roundw
   case rel=>exact⟨k+m,cs4,hmn,by omega,by go_num,HZ4.out,hl5,H4.out,hB4⟩
   case measure=>simp[intOf];omega
  ·obtain rfl:k=n:=by omega
   go_wp2;go_returns;have e:cs=S08.fresh k:=by rw[←Ht.out,List.take_of_length_le (by omega)]
   subst e;exact⟨_,_,rfl,by first|exact zF _|(simp;done)|(simp;omega),fun _=>⟨_,0,rfl,Hblk.out.cells⟩,hB⟩
theorem table08_any(n:Int)(w:World)(hn : -9223372036854775808≤n)(hn':n≤9223372036854775807) :
 Calls Tryz.prog 196 #[.int .i64 n] w fun e w'=>∃a cap,e = .returned (.tuple #[.slice a (S08.tableLen n) cap,.int .i64 (S08.tableErr n)])∧(∀b o,a=some ⟨b,o,none⟩→w.heap.size≤b)∧Rd w' a (S08.fresh (S08.tableLen n))∧Below w.heap.size w w':=by
 by_cases h1:n<1
 ·have hLen:S08.tableLen n=0:=by unfold S08.tableLen;rw[zY (by omega)]
  have hErr:S08.tableErr n=2:=by unfold S08.tableErr;rw[zY (by omega)]
  rw[hLen,hErr];go_enter Tryz.func196,Tryz.ntmps196;go_wp2;go_returns;first|exact⟨none,0,rfl,(fun _ _ e=>(by cases e)),Rd.nil _ _,by go_grown⟩|exact⟨none,⟨0,rfl⟩,(fun _ _ e=>(by cases e)),Rd.nil _ _,by go_grown⟩
 by_cases h2:65536<n
 ·have hLen:S08.tableLen n=0:=by unfold S08.tableLen;rw[zY (by omega)]
  have hErr:S08.tableErr n=2:=by unfold S08.tableErr;rw[zY (by omega)]
  rw[hLen,hErr];go_enter Tryz.func196,Tryz.ntmps196;go_wp2;go_returns;first|exact⟨none,0,rfl,(fun _ _ e=>(by cases e)),Rd.nil _ _,by go_grown⟩|exact⟨none,⟨0,rfl⟩,(fun _ _ e=>(by cases e)),Rd.nil _ _,by go_grown⟩
 obtain⟨m,rfl⟩:∃m:Nat,n=m:=⟨n.toNat,by omega⟩;have hm:m≤65536:=by omega
 have hLen:S08.tableLen (m:Int)=m:=by simp only[S08.tableLen];rw[zR (by omega)];omega
 have hErr:S08.tableErr (m:Int)=0:=by simp only[S08.tableErr];rw[zR (by omega)]
 rw[hLen,hErr];go_enter Tryz.func196,Tryz.ntmps196;go_wp2_with fail;refine(repeat08_any m _ _ _ hm (Rd.new w [.int .i64 32768,.int .i64 0] 170)).mono ?_;rintro e w1 ⟨b1,c1,rfl,hz1,hr1,hb1⟩;have hB1:Below w.heap.size w w1:=zA (by go_grown) hb1;rw[zZ]at hz1;go_wp2_with fail;go_returns;exact⟨_,_,rfl,fun b o e=>by cases e;omega,hr1,hB1⟩
