/- A part of the proof of L15. No condition. -/
import Derived.BigQuiet
import Derived.Deep.Light
import Derived.Deep.QuietTactic
import Derived.Handy
import Derived.Lib.MinMax
import Derived.Test.YtahaacfikalheaaGreatRows
import Derived.WalkLawsBesides
import Derived.WalkSpells
import Derived.Test.YtahaacfikalheaaGreatZL15ac
import Derived.Test.YtahaacfikalheaaGreatZL15ag
set_option linter.all false
set_option maxRecDepth 100000
set_option maxHeartbeats 400000
namespace Go.Proofs.YtahaacfikalheaaGreat
open Go.RowKit
theorem limit06_zero(x:Int)(w:World):Calls Tryz.prog 51 #[.int .i64 x,.int .i64 0] w fun e w'=>e = .returned (.int .i64 (S06.clip x))∧Below w.heap.size w w':=by
 go_enter Tryz.func51,Tryz.ntmps51;go_wp2;go_quiet (fail);go_wp2;go_returns;refine⟨rfl,ziE (by go_grown) _⟩
theorem limit06_one(x:Int)(w:World):Calls Tryz.prog 51 #[.int .i64 x,.int .i64 1] w fun e w'=>e = .returned (.int .i64 (S06.chance x))∧Below w.heap.size w w':=by
 go_enter Tryz.func51,Tryz.ntmps51;go_wp2;go_quiet (fail);go_wp2;go_returns;refine⟨rfl,ziE (by go_grown) _⟩
theorem zmG(x:Int)(w:World):Calls Tryz.prog 50 #[.int .i64 x] w fun e w'=>e = .returned (.int .i64 (S06.clip x))∧Below w.heap.size w w':=by
 go_enter Tryz.func50,Tryz.ntmps50;go_wp2_with fail;refine(limit06_zero _ _).mono ?_;rintro e w1 ⟨rfl,hb1⟩;have hB1:Below w.heap.size w w1:=zA (by go_grown) hb1;have z1:w.heap.size≤w1.heap.size:=hB1.size;go_wp2;go_returns;exact⟨rfl,hB1⟩
theorem znN(x:Int)(w:World):Calls Tryz.prog 31 #[.int .i64 x] w fun e w'=>e = .returned (.int .i64 (S06.chance x))∧Below w.heap.size w w':=by
 go_enter Tryz.func31,Tryz.ntmps31;go_wp2_with fail;refine(limit06_one _ _).mono ?_;rintro e w1 ⟨rfl,hb1⟩;have hB1:Below w.heap.size w w1:=zA (by go_grown) hb1;have z1:w.heap.size≤w1.heap.size:=hB1.size;go_wp2;go_returns;exact⟨rfl,hB1⟩
theorem S06.sqE_bounds(n:Nat):S06.sqE n≤65536:=by
 unfold S06.sqE;exact yC (Nat.div_le_self _ _) (by omega)
theorem S06.sqE_int(n:Nat):(65536-128*((n:Int)%256))/2^(n/256)=(S06.sqE n:Int):=by
 unfold S06.sqE;have hm:=Nat.mod_lt n (show 0<256 by omega);rw[Int.natCast_ediv,Int.natCast_pow,Int.natCast_sub (by omega)];rfl
theorem znD(x:Int)(w:World)(n:Nat)(hn:S06.clip x=n)(hn':n≤3071):Calls Tryz.prog 30 #[.int .i64 x] w fun e w'=>e = .returned (.int .i64 (S06.sqN n))∧Below w.heap.size w w':=by
 have HC:=zB fun W=>zmG x W;rw[hn]at HC;clear hn;have hm:=Nat.mod_lt n (show 0<256 by omega);have hE:=S06.sqE_int n;have hEb:=S06.sqE_bounds n;have Hq:=zB (show((268435456:Int)/(65536+(S06.sqE n:Int)))=(S06.sqN n:Int)from(Int.natCast_ediv 268435456 (65536+S06.sqE n)).symm);generalize S06.sqE n=E at *;generalize S06.sqN n=Q at *;go_enter Tryz.func30,Tryz.ntmps30;go_wp2_with fail;refine(HC.out _).mono ?_;rintro e w1 ⟨rfl,hb1⟩;have hB1:Below w.heap.size w w1:=zA (by go_grown) hb1;have z1:w.heap.size≤w1.heap.size:=hB1.size;go_wp2;go_returns;exact⟨zeF Hq.out,hB1⟩
theorem zdW(x:Int)(w:World):Calls Tryz.prog 30 #[.int .i64 x] w fun e w'=>e = .returned (.int .i64 (S06.squash x))∧Below w.heap.size w w':=by
 have hb:=S06.clip_bounds x;by_cases hneg:S06.clip x<0
 ·have e:S06.squash x=4096-S06.sqN (-S06.clip x).toNat:=by unfold S06.squash;rw[zO hneg]
  rw[e];have hq:=S06.sqN_bounds (n:=(-S06.clip x).toNat) (by omega);have HS:=zB fun W=>znD (-S06.clip x) W (-S06.clip x).toNat (by rw[S06.clip_in (by omega) (by omega)];omega) (by omega);have HC:=zB fun W=>zmG x W;clear e;generalize S06.sqN (-S06.clip x).toNat=q at *;generalize S06.clip x=c at *;go_enter Tryz.func30,Tryz.ntmps30;go_wp2_with fail;refine(HC.out _).mono ?_;rintro e w1 ⟨rfl,hb1⟩;have hB1:Below w.heap.size w w1:=zA (by go_grown) hb1;have z1:w.heap.size≤w1.heap.size:=hB1.size;go_wp2_with fail;refine(HS.out _).mono ?_;rintro e w2 ⟨rfl,hb2⟩;have hB2:Below w.heap.size w w2:=zA (by go_grown) hb2;have z2:w.heap.size≤w2.heap.size:=hB2.size;go_wp2;go_returns;exact⟨rfl,hB2⟩
 ·have e:S06.squash x=S06.sqN (S06.clip x).toNat:=by unfold S06.squash;rw[zG hneg]
  rw[e];exact znD x w _ (by omega) (by omega)
theorem search_any(F:FuncId)(hF:∀args w,(callFunc F args).run Tryz.prog w = .ok (.enter F args) w)(caps:Array Value)(n k:Nat)(hn:n≤1000000)(hk:k≤n)(Inv:World→Prop)
 (hv:∀(i:Nat) w,i<n→Inv w→Calls Tryz.prog F (#[.int .i64 i]++caps) w fun e w'=>e = .returned (.bool (decide (k≤i)))∧Inv w') (w:World) (h0:Inv w) :
 Calls Tryz.prog 111 #[.int .i64 n,.func (.func F) #[] caps] w fun e w'=>e = .returned (.int .i64 k)∧Inv w':=by
 have Hv:=zB hv;clear hv;go_enter Tryz.func111,Tryz.ntmps111;go_wp2;go_loopw [5,6] (fun i j wr=>∃a b:Nat,i = .int .i64 a∧j = .int .i64 b∧a≤k∧k≤b∧b≤n∧Inv wr) (fun i j _=>(intOf j).toNat-(intOf i).toNat)
 case atStart=>exact⟨0,n,rfl,rfl,by omega,hk,by omega,h0⟩
 case round=>
  obtain⟨a,b,rfl,rfl,ha,hb,hbn,hi⟩:=hrel;by_cases hlt:a<b
  ·obtain⟨m,hm⟩:∃m,m=(a+b)/2:=⟨_,rfl⟩;have hm1:((a:Int)+b)/2=(m:Int):=by omega
   have hm2:a≤m:=by omega
   have hm3:m<b:=by omega
   have hc:=Hv.out m _ (by omega) hi;have Hc:=zB hc;clear hc hm;by_cases hkm:k≤m
   ·rw[zQ hkm]at Hc;go_wp2_with fail;refine Hc.out.mono ?_;rintro e w1 ⟨rfl,hi1⟩;go_wp2;go_roundw
    case rel=>exact⟨a,m,rfl,rfl,ha,hkm,by omega,hi1⟩
    case measure=>simp[intOf];omega
   ·rw[yD hkm]at Hc;go_wp2_with fail;refine Hc.out.mono ?_;rintro e w1 ⟨rfl,hi1⟩;go_wp2;go_roundw
    case rel=>exact⟨m+1,b,by go_num,rfl,by omega,hb,hbn,hi1⟩
    case measure=>simp[intOf];omega
  ·obtain rfl:a=k:=by omega
   go_wp2;go_returns;exact⟨rfl,hi⟩
theorem enterStretch(args:Array Value)(w:World):(callFunc 110 args).run Tryz.prog w = .ok (.enter 110 args) w:=by kernel_rfl
theorem zsZ(i p:Int)(b:Bool)(bp:Nat)(w:World)(hi:0≤i)(hi':i≤10000)(hp:w.cell? ⟨bp,0,none⟩=some (.int .i64 p))(hb:decide (p≤S06.squash (i-3071))=b) :
 Calls Tryz.prog 110 #[.int .i64 i,.pointer (some ⟨bp,0,none⟩)] w fun e w'=>e = .returned (.bool b)∧Below w.heap.size w w':=by
 have Hb:=zB hb;have HS:=zB fun W=>zdW (i-3071) W;generalize S06.squash (i-3071)=q at *;clear hb;have hw:IntKind.i64.wrap (i-3071)=i-3071:=IntWalk.i64_in _ (by omega);go_enter Tryz.func110,Tryz.ntmps110;go_wp2;refine zjU 6 (Keeps w [(⟨bp,0,none⟩,.int .i64 p)]) (by kernel_rfl) rfl (by kernel_rfl) (Keeps.start (by simp only[Cells];exact⟨hp,yF⟩)) (fun Y F hY hF=> ?_)
 repeat
  apply zbV (by rw[hY];rfl)
  ·intro w2 ⟨hB2,hk2⟩;simp only[Cells]at hk2;go_simp;with_reducible rfl
  simp only[zuI]
 apply zgT (by rw[hY];rfl)
 ·intro w2 ⟨hB2,hk2⟩;simp only[Cells]at hk2;go_simp;with_reducible exact⟨rfl,rfl⟩
 ·intro w2 hS2;have hk2:=hS2.2;simp only[Cells]at hk2;refine(HS.out _).mono ?_;rintro e w3 ⟨rfl,hb3⟩;exact⟨rfl,hS2.step hb3⟩
 simp only[zuI]
 repeat
  apply zbV (by rw[hY];rfl)
  ·intro w2 ⟨hB2,hk2⟩;simp only[Cells]at hk2;go_simp;with_reducible rfl
  simp only[zuI]
 refine hF.out _ (fun w4 hS4=> ?_);clear hF hY;have hB4:Below w.heap.size w w4:=hS4.1;go_wp2;go_returns;exact⟨zaP Hb.out,hB4⟩
theorem zdI(p:Int)(w:World):Calls Tryz.prog 108 #[.int .i64 p] w fun e w'=>e = .returned (.int .i64 (S06.stretch p))∧Below w.heap.size w w':=by
 have HC:=zB fun W=>znN p W;have hcut:=S06.spot_cuts p;have hst:S06.stretch p=(S06.spot p:Int)-3071:=rfl;rw[hst];have hle:=S06.spot_le p
 have HS:Hid (∀W:World,W.cell? ⟨w.heap.size,0,none⟩=some (.int .i64 (S06.chance p))→Calls Tryz.prog 111 #[.int .i64 6142,.func (.func 110) #[] #[.pointer (some ⟨w.heap.size,0,none⟩)]] W
  fun e w'=>e = .returned (.int .i64 (S06.spot p))∧Below W.heap.size W w'):=zB fun W hc=>by
  refine(search_any 110 enterStretch _ 6142 (S06.spot p) (by omega) hle (fun w'=>Below W.heap.size W w') (fun i w' hi hB=> ?_) W (zF _ _)).mono (fun e w' h=>h);refine(zsZ i (S06.chance p) (decide (S06.spot p≤i)) w.heap.size w' (by omega) (by omega) (by rw[hB.cell (zL hc)];exact hc) ?_).mono (fun e w2 ⟨h1,h2⟩=>⟨h1,zA hB h2⟩);rw[decide_eq_decide];have:=hcut.2 i hi;omega
 generalize S06.spot p=k at *;generalize S06.chance p=c at *;clear hcut hst;go_enter Tryz.func108,Tryz.ntmps108;go_wp2_with fail;refine(HC.out _).mono ?_;rintro e w1 ⟨rfl,hb1⟩;have hB1:Below w.heap.size w w1:=zA (by go_grown) hb1;have z1:w.heap.size≤w1.heap.size:=hB1.size;have hs1:w.heap.size<w1.heap.size:=by have:=hb1.size;simp at this;omega
 have k1:w1.cell? ⟨w.heap.size,0,none⟩=some (.int .i64 p):=(hb1.cell (by simp<;>omega)).trans (by go_simp);have hf:w1.frozen? ⟨w.heap.size,0,none⟩=false:=(hb1.frozen (p:=⟨w.heap.size,0,none⟩) (by simp)).trans (by go_simp);have hc2:(w1.setCell ⟨w.heap.size,0,none⟩ (.int .i64 c)).cell? ⟨w.heap.size,0,none⟩=some (.int .i64 c):=(((Blk.new w [.int .i64 p] 3).step hb1).set 0 _).cell 0;have HSS:=zB (HS.out _ hc2);clear hc2;go_wp2_with fail;refine HSS.out.mono ?_;rintro e w2 ⟨rfl,hb2⟩;have hB2:Below w.heap.size w w2:=zA (by go_grown) hb2;go_wp2;go_returns;exact⟨rfl,hB2⟩
def S06.round(n d:Int):Int:=if n<0 then -((2 * -n+d)/(2*d))else(2*n+d)/(2*d)
theorem S06.round_mono{m n d:Int}(hd:0<d)(h:m≤n):S06.round m d≤S06.round n d:=by
 unfold S06.round;have k:∀x:Int,0≤x→0≤(2*x+d)/(2*d):=fun x hx=>Int.ediv_nonneg (by omega) (by omega);split
 ·split
  ·have:=Int.ediv_le_ediv (c:=2*d) (by omega) (show 2 * -n+d≤2 * -m+d by omega);omega
  ·have:=k (-m) (by omega);have:=k n (by omega);omega
 ·rw[zG (by omega)];exact Int.ediv_le_ediv (by omega) (by omega)
theorem S06.round_abs{n d B:Int}(hd:1≤d)(h1 : -B≤n)(h2:n≤B) : -B≤S06.round n d∧S06.round n d≤B:=by
 have key:∀x:Int,0≤x→(2*x+d)/(2*d)≤x:=fun x hx=>by
  by_cases h0:x=0
  ·subst h0;exact Int.le_of_eq (Int.ediv_eq_zero_of_lt (by omega) (by omega))
  ·refine Int.lt_add_one_iff.1 (Int.ediv_lt_of_lt_mul (by omega) ?_);have e:(x+1)*(2*d)=2*(x*d)+2*d:=by rw[Int.add_mul,Int.mul_left_comm,Int.one_mul]
   have:x*1≤x*d:=Int.mul_le_mul_of_nonneg_left hd hx;omega
 have pos:∀x:Int,0≤x→0≤(2*x+d)/(2*d):=fun x hx=>Int.ediv_nonneg (by omega) (by omega);unfold S06.round;split
 ·have:=key (-n) (by omega);have:=pos (-n) (by omega);omega
 ·have:=key n (by omega);have:=pos n (by omega);omega
theorem zhB(x:Int)(w:World)(h1 : -1125899906842624≤x)(h2:x≤1125899906842624):Calls Tryz.prog 51 #[.int .i64 x,.int .i64 2] w fun e w'=>e = .returned (.int .i64 x)∧Below w.heap.size w w':=by
 go_enter Tryz.func51,Tryz.ntmps51;go_wp2;go_quiet (fail);go_wp2;go_returns;refine⟨zeF (by omega),ziE (by go_grown) _⟩
theorem zoV(n d:Int)(w:World)(h1:0≤n)(h2:n≤1125899906842624)(hd:1≤d)(hd':d≤1048576):Calls Tryz.prog 193 #[.int .i64 n,.int .i64 d] w fun e w'=>e = .returned (.int .i64 ((2*n+d)/(2*d)))∧Below w.heap.size w w':=by
 have HL1:=zB fun W=>zhB n W (by omega) (by omega);have HL2:=zB fun W=>zhB d W (by omega) (by omega);have hne:(d==0)=false:=by simp;omega
 have hne2:¬d=0:=by omega
 have hlt:¬d<0:=by omega
 have hlt2:¬n<0:=by omega
 have w1':IntKind.i64.wrap (2*n)=2*n:=IntWalk.i64_in _ (by omega);have w2':IntKind.i64.wrap (2*n+d)=2*n+d:=IntWalk.i64_in _ (by omega);have w3':IntKind.i64.wrap (2*d)=2*d:=IntWalk.i64_in _ (by omega);have hq:(2*n+d).tdiv (2*d)=(2*n+d)/(2*d):=zgM (by omega);have hq1:0≤(2*n+d)/(2*d):=Int.ediv_nonneg (by omega) (by omega);have hq2:(2*n+d)/(2*d)≤2*n+d:=Int.ediv_le_self _ (by omega);have w4':IntKind.i64.wrap ((2*n+d)/(2*d))=(2*n+d)/(2*d):=IntWalk.i64_in _ (by omega);go_enter Tryz.func193,Tryz.ntmps193;go_wp2_with fail;refine(HL1.out _).mono ?_;rintro e w1 ⟨rfl,hb1⟩;have hB1:Below w.heap.size w w1:=zA (by go_grown) hb1;have z1:w.heap.size≤w1.heap.size:=hB1.size;go_wp2_with fail;refine(HL2.out _).mono ?_;rintro e w2 ⟨rfl,hb2⟩;have hB2:Below w.heap.size w w2:=zA (by go_grown) hb2;have z2:w.heap.size≤w2.heap.size:=hB2.size;go_wp2;go_returns;exact⟨by first|rfl|exact zeF (by omega),hB2⟩
theorem zjG(n d:Int)(w:World)(h1 : -1125899906842624≤n)(h2:n≤1125899906842624)(hd:1≤d)(hd':d≤1048576):Calls Tryz.prog 193 #[.int .i64 n,.int .i64 d] w fun e w'=>e = .returned (.int .i64 (S06.round n d))∧Below w.heap.size w w':=by
 by_cases hn:n<0
 ·have hr:S06.round n d = -((2 * -n+d)/(2*d)):=by unfold S06.round;rw[zO hn]
  have hb:=S06.round_abs (n:=n) (d:=d) (B:=1125899906842624) hd h1 h2;rw[hr]at hb⊢;have HR:=zB fun W=>zoV (-n) d W (by omega) (by omega) hd hd';have HL1:=zB fun W=>zhB n W (by omega) (by omega);have HL2:=zB fun W=>zhB d W (by omega) (by omega);have hne:(d==0)=false:=by simp;omega
  have hlt:¬d<0:=by omega
  clear hr;generalize (2 * -n+d)/(2*d)=q at *;go_enter Tryz.func193,Tryz.ntmps193;go_wp2_with fail;refine(HL1.out _).mono ?_;rintro e w1 ⟨rfl,hb1⟩;have hB1:Below w.heap.size w w1:=zA (by go_grown) hb1;have z1:w.heap.size≤w1.heap.size:=hB1.size;go_wp2_with fail;refine(HL2.out _).mono ?_;rintro e w2 ⟨rfl,hb2⟩;have hB2:Below w.heap.size w w2:=zA (by go_grown) hb2;have z2:w.heap.size≤w2.heap.size:=hB2.size;go_wp2_with fail;refine(HR.out _).mono ?_;rintro e w3 ⟨rfl,hb3⟩;have hB3:Below w.heap.size w w3:=zA (by go_grown) hb3;have z3:w.heap.size≤w3.heap.size:=hB3.size;go_wp2;go_returns;exact⟨rfl,hB3⟩
 ·have hr:S06.round n d=(2*n+d)/(2*d):=by unfold S06.round;rw[zG hn]
  rw[hr];exact zoV n d w (by omega) h2 hd hd'
