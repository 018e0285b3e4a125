/- A part of the proof of L15. No condition. -/
import Derived.Test.YtahaacfikalheaaGreatShelf
import Derived.Test.YtahaacfikalheaaGreatZL15af
import Derived.Test.YtahaacfikalheaaGreatZL15al
import Derived.Test.YtahaacfikalheaaGreatZL15ap
set_option linter.all false
set_option maxRecDepth 100000
set_option maxHeartbeats 1000000
namespace Go.Proofs.YtahaacfikalheaaGreat
open Go.RowKit
theorem zfN{n:Nat}(h:n<4294967296):IntKind.u32.wrap (n:Int)=n:=IntWalk.u32_in _ (by omega)
theorem bound15(wd p:Nat)(hw:wd<4294967296)(hp:p≤4095)(w:World):Calls Tryz.prog 59 #[.agg #[.int .u32 (wd:Int)],.int .i64 (p:Int)] w fun e w'=>e = .returned (.int .u32 (S15.bound wd p:Int))∧Below w.heap.size w w':=by
 unfold S15.bound;have h1:wd/4096≤1048575:=by omega
 have h2:wd/4096*p≤1048575*4095:=Nat.mul_le_mul h1 hp;have h3:IntKind.u32.wrap ((wd:Int)/4096*p)=((wd/4096*p:Nat):Int):=by
  rw[Int.natCast_mul,Int.natCast_ediv]
  exact IntWalk.u32_in _ (by
   have:((wd/4096*p:Nat):Int)=(wd:Int)/4096*p:=by simp
   omega)
 have h4:IntKind.u32.wrap (p:Int)=p:=zfN (by omega);go_enter Tryz.func59,Tryz.ntmps59;go_wp2;go_returns;exact⟨by simp,by go_grown⟩
theorem small15(wd:Nat)(w:World):Calls Tryz.prog 56 #[.agg #[.int .u32 (wd:Int)]] w fun e w'=>e = .returned (.bool (decide (wd<16777216)))∧Below w.heap.size w w':=by
 have hd:decide ((wd:Int)<16777216)=decide (wd<16777216):=by rw[decide_eq_decide];omega
 obtain⟨d,hdd⟩:∃d,decide (wd<16777216)=d:=⟨_,rfl⟩;rw[hdd]at hd⊢;clear hdd;go_enter Tryz.func56,Tryz.ntmps56;go_wp2;go_returns;exact⟨by simp[hd],by go_grown⟩
theorem zrX(p:Int)(hp:1≤p∧p≤4095)(w:World):Calls Tryz.prog 34 #[.int .i64 p] w fun e w'=>e = .returned (.bool true)∧Below w.heap.size w w':=by
 have h1:(1:Int)≤p:=hp.1;have h2:p≤4095:=hp.2;clear hp;go_enter Tryz.func34,Tryz.ntmps34;go_wp2;go_returns;exact⟨by simp[h2],by go_grown⟩
theorem check15(lo wd:Int)(n:Nat)(a:Option Addr)(c:Nat)(hw:16777216≤wd)(hn:n≤65536)(w:World):Calls Tryz.prog 33 #[.agg #[.int .u32 lo,.int .u32 wd,.slice a n c]] w fun e w'=>e = .returned (.int .i64 0)∧Below w.heap.size w w':=by
 have h1:¬wd<16777216:=by omega
 have h2:¬(65536:Int)<n:=by omega
 clear hw hn;go_enter Tryz.func33,Tryz.ntmps33;go_wp2;go_returns;exact⟨rfl,by go_grown⟩
theorem checkD15(wd co:Int)(n:Nat)(a:Option Addr)(c:Nat)(hw:16777216≤wd)(hn:n≤65536)(w:World):Calls Tryz.prog 42 #[.agg #[.int .u32 wd,.int .u32 co,.slice a n c]] w fun e w'=>e = .returned (.int .i64 0)∧Below w.heap.size w w':=by
 have h1:¬wd<16777216:=by omega
 have h2:¬(65536:Int)<n:=by omega
 clear hw hn;go_enter Tryz.func42,Tryz.ntmps42;go_wp2;go_returns;exact⟨rfl,by go_grown⟩
theorem begin15(w:World):Calls Tryz.prog 14 #[] w fun e w'=>e = .returned (.agg #[.int .u32 0,.int .u32 4294967295,.slice none 0 0])∧Below w.heap.size w w':=by
 go_enter Tryz.func14,Tryz.ntmps14;go_wp2;go_returns;exact⟨rfl,by go_grown⟩
theorem ztQ(x:Int)(w:World)(h1:1≤x)(h2:x≤1125899906842624):Calls Tryz.prog 51 #[.int .i64 x,.int .i64 3] w fun e w'=>e = .returned (.int .i64 x)∧Below w.heap.size w w':=by
 go_enter Tryz.func51,Tryz.ntmps51;go_wp2;go_quiet (fail);go_wp2;go_returns;refine⟨zeF (by omega),ziE (by go_grown) _⟩
theorem zqS:∀(f n:Nat),n<2^f→Lib.bitLenAux f n=if n=0 then 0 else n.log2+1
 | 0,n,h=>by rw[zO (by omega)];rfl
 | f+1,n,h=>by
   have ih:=zqS f (n/2) (by rw[zcI]at h;omega);rw[Lib.bitLenAux,ih];by_cases h0:n=0
   ·rw[zO h0,zO h0]
   ·rw[zG h0,zG h0];by_cases h1:n/2=0
    ·have:n=1:=by omega
     subst this;rfl
    ·rw[zG h1,Nat.log2_def n,zO (by omega)];omega
theorem bitLen15{n:Nat}(h1:1≤n)(h2:n≤4095):Lib.bitLen n=n.log2+1:=(zqS 64 n (by omega)).trans (zG (by omega))
theorem log2_15{n:Nat}(h1:1≤n)(h2:n≤4095):n.log2≤11∧2^n.log2≤n:=by
 refine⟨?_,Nat.log2_self_le (by omega)⟩;have:=(Nat.log2_lt (n:=n) (k:=12) (by omega)).2 (by omega);omega
theorem zpU{n:Nat}(h1:1≤n)(h2:n≤4095):256≤256*n.log2+n*256/2^n.log2∧S15.lg n≤3071:=by
 obtain⟨h3,h4⟩:=log2_15 h1 h2;have hp:0<2^n.log2:=zcB _;have h5:256≤n*256/2^n.log2:=(Nat.le_div_iff_mul_le hp).2 (by omega);have h6:n<2^(n.log2+1):=Nat.lt_log2_self;rw[zcI]at h6;have h7:n*256/2^n.log2<512:=(Nat.div_lt_iff_lt_mul hp).2 (by omega);unfold S15.lg;exact⟨by omega,by omega⟩
theorem log15(n:Nat)(h1:1≤n)(h2:n≤4095)(w:World):Calls Tryz.prog 32 #[.int .i64 (n:Int)] w fun e w'=>e = .returned (.int .i64 (S15.lg n:Int))∧Below w.heap.size w w':=by
 have HL:=zB fun W=>ztQ (n:Int) W (by omega) (by omega);have HB:=zB fun W=>Tryz.bits_Len (n:Int) W (by omega) (by omega);obtain⟨hk,hk2⟩:=log2_15 h1 h2;obtain⟨hlg,_⟩:=zpU h1 h2;have e1:Lib.bitLen (n:Int).toNat=n.log2+1:=by
  rw[Int.toNat_natCast];exact bitLen15 h1 h2
 rw[e1]at HB;have e2:IntKind.u64.wrap (n:Int)=n:=IntWalk.u64_in _ (by omega);unfold S15.lg;obtain⟨k,hk0⟩:∃k,n.log2=k:=⟨_,rfl⟩;rw[hk0]at HB hk hk2 hlg⊢;have e3:(n:Int)*256/2^k=((n*256/2^k:Nat):Int):=by simp
 have hq:n*256/2^k≤n*256:=Nat.div_le_self _ _;obtain⟨q,hq0⟩:∃q,n*256/2^k=q:=⟨_,rfl⟩;rw[hq0]at e3 hq hlg⊢;clear e1 hk0 hq0 hk2;go_enter Tryz.func32,Tryz.ntmps32;go_wp2_with fail;refine(HL.out _).mono ?_;rintro e w1 ⟨rfl,hb1⟩;go_wp2_with fail;refine(HB.out _).mono ?_;rintro e w2 ⟨rfl,rfl⟩;go_wp2;go_returns;exact⟨by rw[show((256*k+q-256:Nat):Int)=256*(k:Int)+q-256 by omega];rfl,hb1⟩
theorem cost15(p b:Nat)(hp:1≤p∧p≤4095)(hb:b=0∨b=1)(w:World):Calls Tryz.prog 17 #[.int .i64 (p:Int),.int .i64 (b:Int)] w fun e w'=>e = .returned (.int .i64 (S15.cost p b:Int))∧Below w.heap.size w w':=by
 have HC:=zB fun W=>znN (p:Int) W;have e0:S06.chance (p:Int)=p:=by unfold S06.chance;omega
 rw[e0]at HC;obtain⟨q,hq,hq1⟩:∃q:Nat,q=(if b=1 then p else 4096-p)∧1≤q∧q≤4095:=⟨_,rfl,by split<;>omega⟩;have HL:=zB fun W=>log15 q hq1.1 hq1.2 W;have hlg:=(zpU hq1.1 hq1.2).2;unfold S15.cost;rw[←hq];obtain⟨g,hg⟩:∃g,S15.lg q=g:=⟨_,rfl⟩;rw[hg]at HL hlg⊢;clear hg e0;rcases hb with rfl|rfl
 ·rw[zG (by decide)]at hq;have e1:(4096:Int)-p=q:=by omega
  clear hq hp hq1;go_enter Tryz.func17,Tryz.ntmps17;go_wp2_with fail;refine(HC.out _).mono ?_;rintro e w1 ⟨rfl,hb1⟩;go_wp2_with fail;refine(HL.out _).mono ?_;rintro e w2 ⟨rfl,hb2⟩;go_wp2;go_returns;exact⟨by rw[show((3072-g:Nat):Int)=3072-(g:Int) by omega];rfl,zA hb1 hb2⟩
 ·rw[zO rfl]at hq;subst hq;clear hp hq1;go_enter Tryz.func17,Tryz.ntmps17;go_wp2_with fail;refine(HC.out _).mono ?_;rintro e w1 ⟨rfl,hb1⟩;go_wp2_with fail;refine(HL.out _).mono ?_;rintro e w2 ⟨rfl,hb2⟩;go_wp2;go_returns;exact⟨by rw[show((3072-g:Nat):Int)=3072-(g:Int) by omega];rfl,zA hb1 hb2⟩
