/- A part of the proof of L14n. No condition. -/
import Derived.BigQuiet
import Derived.Deep.Light
import Derived.Deep.QuietTactic
import Derived.Handy
import Derived.Lib.MinMax
import Derived.Test.YtieeogndnhighaaGreatRows
import Derived.WalkLawsBesides
import Derived.WalkSpells
import Derived.Test.YtieeogndnhighaaGreatZL14nab
import Derived.Test.YtieeogndnhighaaGreatZL14naf
set_option linter.all false
set_option maxRecDepth 100000
set_option maxHeartbeats 400000
namespace Go.Proofs.YtieeogndnhighaaGreat
open Go.RowKit
theorem limit06_zero(x:Int)(w:World):Calls Tryz.prog 122 #[.int .i64 x,.int .i64 0] w fun e w'=>e = .returned (.int .i64 (S06.clip x))∧Below w.heap.size w w':=by
 go_enter Tryz.func122,Tryz.ntmps122;go_wp2;go_quiet (fail);go_wp2;go_returns;refine⟨rfl,zhO (by go_grown) _⟩
theorem limit06_one(x:Int)(w:World):Calls Tryz.prog 122 #[.int .i64 x,.int .i64 1] w fun e w'=>e = .returned (.int .i64 (S06.chance x))∧Below w.heap.size w w':=by
 go_enter Tryz.func122,Tryz.ntmps122;go_wp2;go_quiet (fail);go_wp2;go_returns;refine⟨rfl,zhO (by go_grown) _⟩
theorem zpQ(x:Int)(w:World):Calls Tryz.prog 86 #[.int .i64 x] w fun e w'=>e = .returned (.int .i64 (S06.clip x))∧Below w.heap.size w w':=by
 go_enter Tryz.func86,Tryz.ntmps86;go_wp2_with fail;refine(limit06_zero _ _).mono ?_;rintro e w1 ⟨rfl,hb1⟩;have hB1:Below w.heap.size w w1:=zA (by go_grown) hb1;have z1:w.heap.size≤w1.heap.size:=hB1.size;go_wp2;go_returns;exact⟨rfl,hB1⟩
theorem chance06_any(x:Int)(w:World):Calls Tryz.prog 179 #[.int .i64 x] w fun e w'=>e = .returned (.int .i64 (S06.chance x))∧Below w.heap.size w w':=by
 go_enter Tryz.func179,Tryz.ntmps179;go_wp2_with fail;refine(limit06_one _ _).mono ?_;rintro e w1 ⟨rfl,hb1⟩;have hB1:Below w.heap.size w w1:=zA (by go_grown) hb1;have z1:w.heap.size≤w1.heap.size:=hB1.size;go_wp2;go_returns;exact⟨rfl,hB1⟩
theorem S06.sqE_bounds(n:Nat):S06.sqE n≤65536:=by
 unfold S06.sqE;exact yD (Nat.div_le_self _ _) (by omega)
theorem S06.sqE_int(n:Nat):(65536-128*((n:Int)%256))/2^(n/256)=(S06.sqE n:Int):=by
 unfold S06.sqE;have hm:=Nat.mod_lt n (show 0<256 by omega);rw[Int.natCast_ediv,Int.natCast_pow,Int.natCast_sub (by omega)];rfl
theorem zkZ(x:Int)(w:World)(n:Nat)(hn:S06.clip x=n)(hn':n≤3071):Calls Tryz.prog 55 #[.int .i64 x] w fun e w'=>e = .returned (.int .i64 (S06.sqN n))∧Below w.heap.size w w':=by
 have HC:=zD fun W=>zpQ x W;rw[hn]at HC;clear hn;have hm:=Nat.mod_lt n (show 0<256 by omega);have hE:=S06.sqE_int n;have hEb:=S06.sqE_bounds n;have Hq:=zD (show((268435456:Int)/(65536+(S06.sqE n:Int)))=(S06.sqN n:Int)from(Int.natCast_ediv 268435456 (65536+S06.sqE n)).symm);generalize S06.sqE n=E at *;generalize S06.sqN n=Q at *;go_enter Tryz.func55,Tryz.ntmps55;go_wp2_with fail;refine(HC.out _).mono ?_;rintro e w1 ⟨rfl,hb1⟩;have hB1:Below w.heap.size w w1:=zA (by go_grown) hb1;have z1:w.heap.size≤w1.heap.size:=hB1.size;go_wp2;go_returns;exact⟨zcF Hq.out,hB1⟩
theorem zgB(x:Int)(w:World):Calls Tryz.prog 55 #[.int .i64 x] w fun e w'=>e = .returned (.int .i64 (S06.squash x))∧Below w.heap.size w w':=by
 have hb:=S06.clip_bounds x;by_cases hneg:S06.clip x<0
 ·have e:S06.squash x=4096-S06.sqN (-S06.clip x).toNat:=by unfold S06.squash;rw[zU hneg]
  rw[e];have hq:=S06.sqN_bounds (n:=(-S06.clip x).toNat) (by omega);have HS:=zD fun W=>zkZ (-S06.clip x) W (-S06.clip x).toNat (by rw[S06.clip_in (by omega) (by omega)];omega) (by omega);have HC:=zD fun W=>zpQ x W;clear e;generalize S06.sqN (-S06.clip x).toNat=q at *;generalize S06.clip x=c at *;go_enter Tryz.func55,Tryz.ntmps55;go_wp2_with fail;refine(HC.out _).mono ?_;rintro e w1 ⟨rfl,hb1⟩;have hB1:Below w.heap.size w w1:=zA (by go_grown) hb1;have z1:w.heap.size≤w1.heap.size:=hB1.size;go_wp2_with fail;refine(HS.out _).mono ?_;rintro e w2 ⟨rfl,hb2⟩;have hB2:Below w.heap.size w w2:=zA (by go_grown) hb2;have z2:w.heap.size≤w2.heap.size:=hB2.size;go_wp2;go_returns;exact⟨rfl,hB2⟩
 ·have e:S06.squash x=S06.sqN (S06.clip x).toNat:=by unfold S06.squash;rw[zK hneg]
  rw[e];exact zkZ x w _ (by omega) (by omega)
theorem zlR(x a b:Int)(w:World):Calls Tryz.prog 123 #[.int .i64 x,.int .i64 a,.int .i64 b] w fun e w'=>e = .returned (.int .i64 (max a (min x b)))∧Below w.heap.size w w':=by
 go_enter Tryz.func123,Tryz.ntmps123;go_wp2;go_returns;exact⟨rfl,by go_grown⟩
theorem ziL(x:Int)(w:World):Calls Tryz.prog 87 #[.int .i64 x] w fun e w'=>e = .returned (.int .i64 (S06.clip x))∧Below w.heap.size w w':=by
 go_enter Tryz.func87,Tryz.ntmps87;go_wp2_with fail;refine(zlR _ _ _ _).mono ?_;rintro e w1 ⟨rfl,hb1⟩;have hB1:Below w.heap.size w w1:=zA (by go_grown) hb1;have z1:w.heap.size≤w1.heap.size:=hB1.size;go_wp2;go_returns;exact⟨rfl,hB1⟩
theorem zgF(x:Int)(w:World)(n:Nat)(hn:S06.clip x=n)(hn':n≤3071):Calls Tryz.prog 56 #[.int .i64 x] w fun e w'=>e = .returned (.int .i64 (S06.sqN n))∧Below w.heap.size w w':=by
 have HC:=zD fun W=>ziL x W;rw[hn]at HC;clear hn;have hm:=Nat.mod_lt n (show 0<256 by omega);have hEb:=S06.sqE_bounds n;have Hq:=zD (show((268435456:Int)/(65536+(S06.sqE n:Int)))=(S06.sqN n:Int)from(Int.natCast_ediv 268435456 (65536+S06.sqE n)).symm);have HE:=zD (show(65536-128*(n%256))/2^(n/256)=S06.sqE n from rfl);obtain⟨A,hA⟩:∃A:Nat,A=65536-128*(n%256):=⟨_,rfl⟩;have hA2:65536-128*((n:Int)%256)=(A:Int):=by omega
 have hA3:A≤65536:=by omega
 rw[←hA]at HE;clear hA;generalize S06.sqE n=E at *;generalize S06.sqN n=Q at *;go_enter Tryz.func56,Tryz.ntmps56;go_wp2_with fail;refine(HC.out _).mono ?_;rintro e w1 ⟨rfl,hb1⟩;have hB1:Below w.heap.size w w1:=zA (by go_grown) hb1;have z1:w.heap.size≤w1.heap.size:=hB1.size;go_wp2;go_loopw [3,4] (fun e i wr=>∃k:Nat,k≤n/256∧i = .int .i64 k∧e = .int .i64 (A/2^k:Nat)∧Below w.heap.size w wr) (fun _ i _=>n/256-(intOf i).toNat)
 case atStart=>exact⟨0,by omega,rfl,by simp,hB1⟩
 case round=>
  obtain⟨k,hk,rfl,rfl,hB⟩:=hrel;have hle:A/2^k≤65536:=yD (Nat.div_le_self _ _) hA3;by_cases hlt:k<n/256
  ·have Hs:=zD (show A/2^k/2=A/2^(k+1) by rw[Nat.div_div_eq_div_mul,Nat.pow_succ]);have hlt2:(k:Int)<(n:Int)/256:=by omega
   generalize A/2^k=C at *;go_wp2;go_roundw
   case rel=>exact⟨k+1,by omega,by go_num,by rw[←Hs.out];go_num,hB⟩
   case measure=>simp[intOf];omega
  ·obtain rfl:k=n/256:=by omega
   have hlt2:¬((n/256:Nat):Int)<(n:Int)/256:=by omega
   rw[HE.out];go_wp2;go_returns;exact⟨zcF Hq.out,hB⟩
theorem zmZ(x:Int)(w:World):Calls Tryz.prog 56 #[.int .i64 x] w fun e w'=>e = .returned (.int .i64 (S06.squash x))∧Below w.heap.size w w':=by
 have hb:=S06.clip_bounds x;by_cases hneg:S06.clip x<0
 ·have e:S06.squash x=4096-S06.sqN (-S06.clip x).toNat:=by unfold S06.squash;rw[zU hneg]
  rw[e];have hq:=S06.sqN_bounds (n:=(-S06.clip x).toNat) (by omega);have HS:=zD fun W=>zgF (-S06.clip x) W (-S06.clip x).toNat (by rw[S06.clip_in (by omega) (by omega)];omega) (by omega);have HC:=zD fun W=>ziL x W;clear e;generalize S06.sqN (-S06.clip x).toNat=q at *;generalize S06.clip x=c at *;go_enter Tryz.func56,Tryz.ntmps56;go_wp2_with fail;refine(HC.out _).mono ?_;rintro e w1 ⟨rfl,hb1⟩;have hB1:Below w.heap.size w w1:=zA (by go_grown) hb1;have z1:w.heap.size≤w1.heap.size:=hB1.size;go_wp2_with fail;refine(HS.out _).mono ?_;rintro e w2 ⟨rfl,hb2⟩;have hB2:Below w.heap.size w w2:=zA (by go_grown) hb2;have z2:w.heap.size≤w2.heap.size:=hB2.size;go_wp2;go_returns;exact⟨rfl,hB2⟩
 ·have e:S06.squash x=S06.sqN (S06.clip x).toNat:=by unfold S06.squash;rw[zK hneg]
  rw[e];exact zgF x w _ (by omega) (by omega)
theorem search_any(F:FuncId)(hF:∀args w,(callFunc F args).run Tryz.prog w = .ok (.enter F args) w)(caps:Array Value)(n k:Nat)(hn:n≤1000000)(hk:k≤n)(Inv:World→Prop)
 (hv:∀(i:Nat) w,i<n→Inv w→Calls Tryz.prog F (#[.int .i64 i]++caps) w fun e w'=>e = .returned (.bool (decide (k≤i)))∧Inv w') (w:World) (h0:Inv w) :
 Calls Tryz.prog 181 #[.int .i64 n,.func (.func F) #[] caps] w fun e w'=>e = .returned (.int .i64 k)∧Inv w':=by
 have Hv:=zD hv;clear hv;go_enter Tryz.func181,Tryz.ntmps181;go_wp2;go_loopw [5,6] (fun i j wr=>∃a b:Nat,i = .int .i64 a∧j = .int .i64 b∧a≤k∧k≤b∧b≤n∧Inv wr) (fun i j _=>(intOf j).toNat-(intOf i).toNat)
 case atStart=>exact⟨0,n,rfl,rfl,by omega,hk,by omega,h0⟩
 case round=>
  obtain⟨a,b,rfl,rfl,ha,hb,hbn,hi⟩:=hrel;by_cases hlt:a<b
  ·obtain⟨m,hm⟩:∃m,m=(a+b)/2:=⟨_,rfl⟩;have hm1:((a:Int)+b)/2=(m:Int):=by omega
   have hm2:a≤m:=by omega
   have hm3:m<b:=by omega
   have hc:=Hv.out m _ (by omega) hi;have Hc:=zD hc;clear hc hm;by_cases hkm:k≤m
   ·rw[zQ hkm]at Hc;go_wp2_with fail;refine Hc.out.mono ?_;rintro e w1 ⟨rfl,hi1⟩;go_wp2;go_roundw
    case rel=>exact⟨a,m,rfl,rfl,ha,hkm,by omega,hi1⟩
    case measure=>simp[intOf];omega
   ·rw[zL hkm]at Hc;go_wp2_with fail;refine Hc.out.mono ?_;rintro e w1 ⟨rfl,hi1⟩;go_wp2;go_roundw
    case rel=>exact⟨m+1,b,by go_num,rfl,by omega,hb,hbn,hi1⟩
    case measure=>simp[intOf];omega
  ·obtain rfl:a=k:=by omega
   go_wp2;go_returns;exact⟨rfl,hi⟩
theorem enterStretch(args:Array Value)(w:World):(callFunc 180 args).run Tryz.prog w = .ok (.enter 180 args) w:=by kernel_rfl
theorem zqB(i p:Int)(b:Bool)(bp:Nat)(w:World)(hi:0≤i)(hi':i≤10000)(hp:w.cell? ⟨bp,0,none⟩=some (.int .i64 p))(hb:decide (p≤S06.squash (i-3071))=b) :
 Calls Tryz.prog 180 #[.int .i64 i,.pointer (some ⟨bp,0,none⟩)] w fun e w'=>e = .returned (.bool b)∧Below w.heap.size w w':=by
 have Hb:=zD hb;have HS:=zD fun W=>zgB (i-3071) W;generalize S06.squash (i-3071)=q at *;clear hb;have hw:IntKind.i64.wrap (i-3071)=i-3071:=IntWalk.i64_in _ (by omega);go_enter Tryz.func180,Tryz.ntmps180;go_wp2;refine ziD 6 (Keeps w [(⟨bp,0,none⟩,.int .i64 p)]) (by kernel_rfl) rfl (by kernel_rfl) (Keeps.start (by simp only[Cells];exact⟨hp,yJ⟩)) (fun Y F hY hF=> ?_)
 repeat
  apply zbY (by rw[hY];rfl)
  ·intro w2 ⟨hB2,hk2⟩;simp only[Cells]at hk2;go_simp;with_reducible rfl
  simp only[zrB]
 apply zfC (by rw[hY];rfl)
 ·intro w2 ⟨hB2,hk2⟩;simp only[Cells]at hk2;go_simp;with_reducible exact⟨rfl,rfl⟩
 ·intro w2 hS2;have hk2:=hS2.2;simp only[Cells]at hk2;refine(HS.out _).mono ?_;rintro e w3 ⟨rfl,hb3⟩;exact⟨rfl,hS2.step hb3⟩
 simp only[zrB]
 repeat
  apply zbY (by rw[hY];rfl)
  ·intro w2 ⟨hB2,hk2⟩;simp only[Cells]at hk2;go_simp;with_reducible rfl
  simp only[zrB]
 refine hF.out _ (fun w4 hS4=> ?_);clear hF hY;have hB4:Below w.heap.size w w4:=hS4.1;go_wp2;go_returns;exact⟨yZ Hb.out,hB4⟩
theorem ziI(p:Int)(w:World):Calls Tryz.prog 177 #[.int .i64 p] w fun e w'=>e = .returned (.int .i64 (S06.stretch p))∧Below w.heap.size w w':=by
 have HC:=zD fun W=>chance06_any p W;have hcut:=S06.spot_cuts p;have hst:S06.stretch p=(S06.spot p:Int)-3071:=rfl;rw[hst];have hle:=S06.spot_le p
 have HS:Hid (∀W:World,W.cell? ⟨w.heap.size,0,none⟩=some (.int .i64 (S06.chance p))→Calls Tryz.prog 181 #[.int .i64 6142,.func (.func 180) #[] #[.pointer (some ⟨w.heap.size,0,none⟩)]] W
  fun e w'=>e = .returned (.int .i64 (S06.spot p))∧Below W.heap.size W w'):=zD fun W hc=>by
  refine(search_any 180 enterStretch _ 6142 (S06.spot p) (by omega) hle (fun w'=>Below W.heap.size W w') (fun i w' hi hB=> ?_) W (zG _ _)).mono (fun e w' h=>h);refine(zqB i (S06.chance p) (decide (S06.spot p≤i)) w.heap.size w' (by omega) (by omega) (by rw[hB.cell (zJ hc)];exact hc) ?_).mono (fun e w2 ⟨h1,h2⟩=>⟨h1,zA hB h2⟩);rw[decide_eq_decide];have:=hcut.2 i hi;omega
 generalize S06.spot p=k at *;generalize S06.chance p=c at *;clear hcut hst;go_enter Tryz.func177,Tryz.ntmps177;go_wp2_with fail;refine(HC.out _).mono ?_;rintro e w1 ⟨rfl,hb1⟩;have hB1:Below w.heap.size w w1:=zA (by go_grown) hb1;have z1:w.heap.size≤w1.heap.size:=hB1.size;have hs1:w.heap.size<w1.heap.size:=by have:=hb1.size;simp at this;omega
 have k1:w1.cell? ⟨w.heap.size,0,none⟩=some (.int .i64 p):=(hb1.cell (by simp<;>omega)).trans (by go_simp);have hf:w1.frozen? ⟨w.heap.size,0,none⟩=false:=(hb1.frozen (p:=⟨w.heap.size,0,none⟩) (by simp)).trans (by go_simp);have hc2:(w1.setCell ⟨w.heap.size,0,none⟩ (.int .i64 c)).cell? ⟨w.heap.size,0,none⟩=some (.int .i64 c):=(((Blk.new w [.int .i64 p] 3).step hb1).set 0 _).cell 0;have HSS:=zD (HS.out _ hc2);clear hc2;go_wp2_with fail;refine HSS.out.mono ?_;rintro e w2 ⟨rfl,hb2⟩;have hB2:Below w.heap.size w w2:=zA (by go_grown) hb2;go_wp2;go_returns;exact⟨rfl,hB2⟩
def S06.round(n d:Int):Int:=if n<0 then -((2 * -n+d)/(2*d))else(2*n+d)/(2*d)
theorem S06.round_mono{m n d:Int}(hd:0<d)(h:m≤n):S06.round m d≤S06.round n d:=by
 unfold S06.round;have k:∀x:Int,0≤x→0≤(2*x+d)/(2*d):=fun x hx=>Int.ediv_nonneg (by omega) (by omega);split
 ·split
  ·have:=Int.ediv_le_ediv (c:=2*d) (by omega) (show 2 * -n+d≤2 * -m+d by omega);omega
  ·have:=k (-m) (by omega);have:=k n (by omega);omega
 ·rw[zK (by omega)];exact Int.ediv_le_ediv (by omega) (by omega)
theorem S06.round_abs{n d B:Int}(hd:1≤d)(h1 : -B≤n)(h2:n≤B) : -B≤S06.round n d∧S06.round n d≤B:=by
 have key:∀x:Int,0≤x→(2*x+d)/(2*d)≤x:=fun x hx=>by
  by_cases h0:x=0
  ·subst h0;exact Int.le_of_eq (Int.ediv_eq_zero_of_lt (by omega) (by omega))
  ·refine Int.lt_add_one_iff.1 (Int.ediv_lt_of_lt_mul (by omega) ?_);have e:(x+1)*(2*d)=2*(x*d)+2*d:=by rw[Int.add_mul,Int.mul_left_comm,Int.one_mul]
   have:x*1≤x*d:=Int.mul_le_mul_of_nonneg_left hd hx;omega
 have pos:∀x:Int,0≤x→0≤(2*x+d)/(2*d):=fun x hx=>Int.ediv_nonneg (by omega) (by omega);unfold S06.round;split
 ·have:=key (-n) (by omega);have:=pos (-n) (by omega);omega
 ·have:=key n (by omega);have:=pos n (by omega);omega
theorem zfK(x:Int)(w:World)(h1 : -1125899906842624≤x)(h2:x≤1125899906842624):Calls Tryz.prog 122 #[.int .i64 x,.int .i64 2] w fun e w'=>e = .returned (.int .i64 x)∧Below w.heap.size w w':=by
 go_enter Tryz.func122,Tryz.ntmps122;go_wp2;go_quiet (fail);go_wp2;go_returns;refine⟨zcF (by omega),zhO (by go_grown) _⟩
theorem zmS(n d:Int)(w:World)(h1:0≤n)(h2:n≤1125899906842624)(hd:1≤d)(hd':d≤1048576):Calls Tryz.prog 261 #[.int .i64 n,.int .i64 d] w fun e w'=>e = .returned (.int .i64 ((2*n+d)/(2*d)))∧Below w.heap.size w w':=by
 have HL1:=zD fun W=>zfK n W (by omega) (by omega);have HL2:=zD fun W=>zfK d W (by omega) (by omega);have hne:(d==0)=false:=by simp;omega
 have hne2:¬d=0:=by omega
 have hlt:¬d<0:=by omega
 have hlt2:¬n<0:=by omega
 have w1':IntKind.i64.wrap (2*n)=2*n:=IntWalk.i64_in _ (by omega);have w2':IntKind.i64.wrap (2*n+d)=2*n+d:=IntWalk.i64_in _ (by omega);have w3':IntKind.i64.wrap (2*d)=2*d:=IntWalk.i64_in _ (by omega);have hq:(2*n+d).tdiv (2*d)=(2*n+d)/(2*d):=Int.tdiv_eq_ediv_of_nonneg (by omega);have hq1:0≤(2*n+d)/(2*d):=Int.ediv_nonneg (by omega) (by omega);have hq2:(2*n+d)/(2*d)≤2*n+d:=Int.ediv_le_self _ (by omega);have w4':IntKind.i64.wrap ((2*n+d)/(2*d))=(2*n+d)/(2*d):=IntWalk.i64_in _ (by omega);go_enter Tryz.func261,Tryz.ntmps261;go_wp2_with fail;refine(HL1.out _).mono ?_;rintro e w1 ⟨rfl,hb1⟩;have hB1:Below w.heap.size w w1:=zA (by go_grown) hb1;have z1:w.heap.size≤w1.heap.size:=hB1.size;go_wp2_with fail;refine(HL2.out _).mono ?_;rintro e w2 ⟨rfl,hb2⟩;have hB2:Below w.heap.size w w2:=zA (by go_grown) hb2;have z2:w.heap.size≤w2.heap.size:=hB2.size;go_wp2;go_returns;exact⟨by first|rfl|exact zcF (by omega),hB2⟩
theorem round06_any(n d:Int)(w:World)(h1 : -1125899906842624≤n)(h2:n≤1125899906842624)(hd:1≤d)(hd':d≤1048576):Calls Tryz.prog 261 #[.int .i64 n,.int .i64 d] w fun e w'=>e = .returned (.int .i64 (S06.round n d))∧Below w.heap.size w w':=by
 by_cases hn:n<0
 ·have hr:S06.round n d = -((2 * -n+d)/(2*d)):=by unfold S06.round;rw[zU hn]
  have hb:=S06.round_abs (n:=n) (d:=d) (B:=1125899906842624) hd h1 h2;rw[hr]at hb⊢;have HR:=zD fun W=>zmS (-n) d W (by omega) (by omega) hd hd';have HL1:=zD fun W=>zfK n W (by omega) (by omega);have HL2:=zD fun W=>zfK d W (by omega) (by omega);have hne:(d==0)=false:=by simp;omega
  have hlt:¬d<0:=by omega
  clear hr;generalize (2 * -n+d)/(2*d)=q at *;go_enter Tryz.func261,Tryz.ntmps261;go_wp2_with fail;refine(HL1.out _).mono ?_;rintro e w1 ⟨rfl,hb1⟩;have hB1:Below w.heap.size w w1:=zA (by go_grown) hb1;have z1:w.heap.size≤w1.heap.size:=hB1.size;go_wp2_with fail;refine(HL2.out _).mono ?_;rintro e w2 ⟨rfl,hb2⟩;have hB2:Below w.heap.size w w2:=zA (by go_grown) hb2;have z2:w.heap.size≤w2.heap.size:=hB2.size;go_wp2_with fail;refine(HR.out _).mono ?_;rintro e w3 ⟨rfl,hb3⟩;have hB3:Below w.heap.size w w3:=zA (by go_grown) hb3;have z3:w.heap.size≤w3.heap.size:=hB3.size;go_wp2;go_returns;exact⟨rfl,hB3⟩
 ·have hr:S06.round n d=(2*n+d)/(2*d):=by unfold S06.round;rw[zK hn]
  rw[hr];exact zmS n d w (by omega) h2 hd hd'
