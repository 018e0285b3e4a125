/- A part of the proof of L14l. No condition. -/
import Derived.BigQuiet
import Derived.Deep.Light
import Derived.Deep.QuietTactic
import Derived.Lib.MinMax
import Derived.Test.YthhgkafloejjiaaGreatRows
import Derived.WalkLawsBesides
import Derived.WalkSpells
import Derived.Test.YthhgkafloejjiaaGreatZL14lac
import Derived.Test.YthhgkafloejjiaaGreatZL14lag
import Derived.Test.YthhgkafloejjiaaGreatZL14lah
set_option linter.all false
set_option maxRecDepth 100000
set_option maxHeartbeats 400000
namespace Go.Proofs.YthhgkafloejjiaaGreat
open Go.RowKit
theorem limit06_zero(x:Int)(w:World):Calls Tryz.prog 100 #[x,.int .i64 0] w fun e a=>e = .returned (.int .i64 (S06.clip x))∧Below w w a:=by
 go_enter Tryz.func100,Tryz.ntmps100;go_wp2;go_quiet (fail);go_wp2;go_returns;refine⟨rfl,zgF zo _⟩
theorem limit06_one(x:Int)(w:World):Calls Tryz.prog 100 #[x,.int .i64 1] w fun e a=>e = .returned (.int .i64 (S06.chance x))∧Below w w a:=by
 go_enter Tryz.func100,Tryz.ntmps100;go_wp2;go_quiet (fail);go_wp2;go_returns;refine⟨rfl,zgF zo _⟩
theorem zmZ(x:Int)(w:World):Calls Tryz.prog 56 #[x] w fun e a=>e = .returned (.int .i64 (S06.clip x))∧Below w w a:=by
 go_enter Tryz.func56,Tryz.ntmps56;go_wp2_with fail;refine mnx w (limit06_zero _ _) fun f c b d=> ?_;exact mf1 b
theorem chance06_any(x:Int)(w:World):Calls Tryz.prog 148 #[x] w fun e a=>e = .returned (.int .i64 (S06.chance x))∧Below w w a:=by
 go_enter Tryz.func148,Tryz.ntmps148;go_wp2_with fail;refine mnx w (limit06_one _ _) fun f c b d=> ?_;exact mf1 b
theorem S06.sqE_bounds(n:Nat):S06.sqE n≤65536:=by
 unfold S06.sqE;exact yD (zfB _ _) om
theorem S06.sqE_int(n:Nat):(65536-128*((n:Int)%256))/2^(n/256)=(S06.sqE n:Int):=by
 unfold S06.sqE;have a:=Nat.mod_lt n (show 0<256 by omega);rw[Int.natCast_ediv,Int.natCast_pow,Int.natCast_sub om];rfl
theorem znS(x:Int)(w:World)(n:Nat)(b:S06.clip x=n)(g:n≤3071):Calls Tryz.prog 30 #[x] w fun e c=>e = .returned (.int .i64 (S06.sqN n))∧Below w w c:=by
 have a:=zC fun W=>zmZ x W;rw[b]at a;clear b;have i:=Nat.mod_lt n (show 0<256 by omega);have k:=S06.sqE_int n;have m:=S06.sqE_bounds n;have d:=zC (show((268435456:Int)/(65536+(S06.sqE n:Int)))=(S06.sqN n:Int)from(Int.natCast_ediv 268435456 (65536+S06.sqE n)).symm);generalize S06.sqE n=E at *;generalize S06.sqN n=Q at *;go_enter Tryz.func30,Tryz.ntmps30;go_wp2_with fail;refine mnx w (a.out _) fun j h f l=> ?_;go_wp2;go_returns;exact⟨zbM d.out,f⟩
theorem zeX(x:Int)(w:World):Calls Tryz.prog 30 #[x] w fun e d=>e = .returned (.int .i64 (S06.squash x))∧Below w w d:=by
 have j:=S06.clip_bounds x;by_cases a:S06.clip x<0
 ·have e:S06.squash x=4096-S06.sqN (-S06.clip x).toNat:=by unfold S06.squash;rw[zQ a]
  rw[e];have l:=S06.sqN_bounds (n:=(-S06.clip x).toNat) om;have f:=zC fun W=>znS (-S06.clip x) W (-S06.clip x).toNat (by rw[S06.clip_in om om];omega) om;have g:=zC fun W=>zmZ x W;clear e;generalize S06.sqN (-S06.clip x).toNat=q at *;generalize S06.clip x=c at *;go_enter Tryz.func30,Tryz.ntmps30;go_wp2_with fail;refine mnx w (g.out _) fun o h p k=> ?_;go_wp2_with fail;refine mnx w (f.out _) fun i m b r=> ?_;exact mf1 b
 ·have e:S06.squash x=S06.sqN (S06.clip x).toNat:=by unfold S06.squash;rw[zG a]
  rw[e];exact znS x w _ om om
theorem zdJ(x a b:Int)(w:World):Calls Tryz.prog 111 #[x,a,b] w fun e c=>e = .returned (.int .i64 (max a (min x b)))∧Below w w c:=by
 go_enter Tryz.func111,Tryz.ntmps111;exact mf4
theorem zfK(x:Int)(w:World):Calls Tryz.prog 94 #[x] w fun e a=>e = .returned (.int .i64 (S06.clip x))∧Below w w a:=by
 go_enter Tryz.func94,Tryz.ntmps94;go_wp2_with fail;refine mnx w (zdJ _ _ _ _) fun f c b d=> ?_;exact mf1 b
theorem ziC(x:Int)(w:World)(n:Nat)(d:S06.clip x=n)(r:n≤3071):Calls Tryz.prog 49 #[x] w fun e l=>e = .returned (.int .i64 (S06.sqN n))∧Below w w l:=by
 have f:=zC fun W=>zfK x W;rw[d]at f;clear d;have y:=Nat.mod_lt n (show 0<256 by omega);have q:=S06.sqE_bounds n;obtain⟨g,a⟩:=zh2 (show((268435456:Int)/(65536+(S06.sqE n:Int)))=(S06.sqN n:Int)from(Int.natCast_ediv 268435456 (65536+S06.sqE n)).symm) (show(65536-128*(n%256))/2^(n/256)=S06.sqE n from rfl);obtain⟨A,c⟩:∃A:Nat,A=65536-128*(n%256):=⟨_,rfl⟩;have z:65536-128*((n:Int)%256)=(A:Int):=by omega
 have h:A≤65536:=by omega
 rw[←c]at a;clear c;generalize S06.sqE n=E at *;generalize S06.sqN n=Q at *;go_enter Tryz.func49,Tryz.ntmps49;go_wp2_with fail;refine mnx w (f.out _) fun p v m u=> ?_;go_wp2;go_loopw [3,4] (fun e i wr=>∃k:Nat,k≤n/256∧i = .int .i64 k∧e = .int .i64 (A/2^k:Nat)∧Below w w wr) (fun _ i _=>n/256-(intOf i).toNat)
 case atStart=>exact⟨0,by omega,rfl,by simp,m⟩
 case round=>
  obtain⟨k,B,rfl,rfl,b⟩:=hrel;have t:A/2^k≤65536:=yD (zfB _ _) h;by_cases s:k<n/256
  ·have o:=zC (show A/2^k/2=A/2^(k+1) by rw[Nat.div_div_eq_div_mul,Nat.pow_succ]);have j:(k:Int)<(n:Int)/256:=by omega
   generalize A/2^k=C at *;go_wp2;go_roundw
   case rel=>exact⟨k+1,by omega,by go_num,by rw[←o.out];go_num,b⟩
   case measure=>simp[intOf];omega
  ·obtain rfl:k=n/256:=by omega
   have j:¬((n/256:Nat):Int)<(n:Int)/256:=by omega
   rw[a.out];go_wp2;go_returns;exact⟨zbM g.out,b⟩
theorem zeA(x:Int)(w:World):Calls Tryz.prog 49 #[x] w fun e d=>e = .returned (.int .i64 (S06.squash x))∧Below w w d:=by
 have j:=S06.clip_bounds x;by_cases a:S06.clip x<0
 ·have e:S06.squash x=4096-S06.sqN (-S06.clip x).toNat:=by unfold S06.squash;rw[zQ a]
  rw[e];have l:=S06.sqN_bounds (n:=(-S06.clip x).toNat) om;have f:=zC fun W=>ziC (-S06.clip x) W (-S06.clip x).toNat (by rw[S06.clip_in om om];omega) om;have g:=zC fun W=>zfK x W;clear e;generalize S06.sqN (-S06.clip x).toNat=q at *;generalize S06.clip x=c at *;go_enter Tryz.func49,Tryz.ntmps49;go_wp2_with fail;refine mnx w (g.out _) fun o h p k=> ?_;go_wp2_with fail;refine mnx w (f.out _) fun i m b r=> ?_;exact mf1 b
 ·have e:S06.squash x=S06.sqN (S06.clip x).toNat:=by unfold S06.squash;rw[zG a]
  rw[e];exact ziC x w _ om om
theorem search_any(F:FuncId)(H:∀r w,(callFunc F r).run Tryz.prog w = .ok (.enter F r) w)(l:Array Value)(n k:Nat)(E:n≤1000000)(A:k≤n)(c:World→Prop)
 (o:∀(i:Nat) w,i<n→c w→Calls Tryz.prog F (#[.int .i64 i]++l) w fun e g=>e = .returned (.bool (decide (k≤i)))∧c g) (w:World) (t:c w) :
 Calls Tryz.prog 150 #[n,.func (.func F) #[] l] w fun e g=>e = .returned (.int .i64 k)∧c g:=by
 have y:=zC o;clear o;go_enter Tryz.func150,Tryz.ntmps150;go_wp2;go_loopw [5,6] (fun i j wr=>∃a b:Nat,i = .int .i64 a∧j = .int .i64 b∧a≤k∧k≤b∧b≤n∧c wr) (fun i j _=>(intOf j).toNat-(intOf i).toNat)
 case atStart=>exact⟨0,n,rfl,rfl,by omega,A,by omega,t⟩
 case round=>
  obtain⟨a,b,rfl,rfl,x,u,v,q⟩:=hrel;by_cases B:a<b
  ·obtain⟨m,z⟩:∃m,m=(a+b)/2:=⟨_,rfl⟩;have D:((a:Int)+b)/2=(m:Int):=by omega
   have G:a≤m:=by omega
   have C:m<b:=by omega
   have p:=y.out m _ om q;have d:=zC p;clear p z;by_cases h:k≤m
   ·rw[zO h]at d;go_wp2_with fail;refine d.out.mono ?_;rintro e s ⟨rfl,f⟩;go_wp2;go_roundw
    case rel=>exact⟨a,m,rfl,rfl,x,h,by omega,f⟩
    case measure=>simp[intOf];omega
   ·rw[zL h]at d;go_wp2_with fail;refine d.out.mono ?_;rintro e s ⟨rfl,f⟩;go_wp2;go_roundw
    case rel=>exact⟨m+1,b,by go_num,rfl,by omega,u,v,f⟩
    case measure=>simp[intOf];omega
  ·obtain rfl:a=k:=by omega
   exact mf1 q
theorem enterStretch(args:Array Value)(w:World):(callFunc 149 args).run Tryz.prog w = .ok (.enter 149 args) w:=by kernel_rfl
theorem ztS(i p:Int)(b:Bool)(d:Nat)(w:World)(y:0≤i)(x:i≤10000)(l:w.cell? ⟨d,0,none⟩=some (.int .i64 p))(g:decide (p≤S06.squash (i-3071))=b) :
 Calls Tryz.prog 149 #[i,.pointer (some ⟨d,0,none⟩)] w fun e n=>e = .returned (.bool b)∧Below w w n:=by
 have s:=zC g;have o:=zC fun W=>zeX (i-3071) W;generalize S06.squash (i-3071)=q at *;clear g;have u:IntKind.i64.wrap (i-3071)=i-3071:=IntWalk.i64_in _ om;go_enter Tryz.func149,Tryz.ntmps149;go_wp2;refine zbX 6 (Keeps w [(⟨d,0,none⟩,p)]) zk rfl zk (Keeps.start (by simp only[Cells];exact⟨l,zT⟩)) (fun Y F hY j=> ?_)
 repeat
  apply yN (by rw[hY];rfl)
  ·intro c ⟨h,a⟩;simp only[Cells]at a;go_simp;with_reducible rfl
  simp only[zvF]
 apply zcF (by rw[hY];rfl)
 ·intro c ⟨h,a⟩;simp only[Cells]at a;go_simp;with_reducible exact⟨rfl,rfl⟩
 ·intro c f;have a:=f.2;simp only[Cells]at a;refine(o.out _).mono ?_;rintro e v ⟨rfl,r⟩;exact⟨rfl,f.step r⟩
 simp only[zvF]
 repeat
  apply yN (by rw[hY];rfl)
  ·intro c ⟨h,a⟩;simp only[Cells]at a;go_simp;with_reducible rfl
  simp only[zvF]
 refine j.out _ (fun t k=> ?_);clear j hY;have m:Below w w t:=k.1;go_wp2;go_returns;exact⟨zaA s.out,m⟩
theorem zdA(p:Int)(w:World):Calls Tryz.prog 146 #[p] w fun e a=>e = .returned (.int .i64 (S06.stretch p))∧Below w w a:=by
 have v:=zC fun W=>chance06_any p W;have n:=S06.spot_cuts p;have f:S06.stretch p=(S06.spot p:Int)-3071:=rfl;rw[f];have r:=S06.spot_le p
 have u:Hid (∀W:World,W.cell? ⟨w,0,none⟩=some (.int .i64 (S06.chance p))→Calls Tryz.prog 150 #[.int .i64 6142,.func (.func 149) #[] #[.pointer (some ⟨w,0,none⟩)]] W
  fun e a=>e = .returned (.int .i64 (S06.spot p))∧Below W W a):=zC fun W l=>by
  refine(search_any 149 enterStretch _ 6142 (S06.spot p) om r (fun a=>Below W W a) (fun i a y g=> ?_) W (zJ _ _)).mono (fun e a h=>h);refine(ztS i (S06.chance p) (decide (S06.spot p≤i)) w.heap.size a om om (by rw[g.cell (zE l)];exact l) ?_).mono (fun e m ⟨x,q⟩=>⟨x,zA g q⟩);rw[decide_eq_decide];have:=n.2 i y;omega
 generalize S06.spot p=k at *;generalize S06.chance p=c at *;clear n f;go_enter Tryz.func146,Tryz.ntmps146;go_wp2_with fail;refine mnx w (v.out _) fun b d D B=> ?_;have z:w.heap.size<b.heap.size:=by have:=d.size;simp at this;omega
 have C:b.cell? ⟨w,0,none⟩=some (.int .i64 p):=(d.cell by6).trans (by go_simp);have A:b.frozen? ⟨w,0,none⟩=false:=(d.frozen (p:=⟨w,0,none⟩) by1).trans (by go_simp);have j:(b.setCell ⟨w,0,none⟩ (.int .i64 c)).cell? ⟨w,0,none⟩=some (.int .i64 c):=(((Blk.new w [p] 3).step d).set 0 _).cell 0;have t:=zC (u.out _ j);clear j;go_wp2_with fail;refine t.out.mono ?_;rintro e m ⟨rfl,o⟩;have s:Below w w m:=zA zo o;exact mf1 s
theorem zbK(p:Int)(w:World):Calls Tryz.prog 76 #[p] w fun e l=>e = .returned (.int .i64 (S06.stretch p))∧Below w w l:=by
 have C:Hid (∀W:World,Calls Tryz.prog 111 #[p,.int .i64 1,.int .i64 4095] W fun e l=>e = .returned (.int .i64 (S06.chance p))∧Below W W l):=zC fun W=>zdJ p 1 4095 W;have B:=S06.spot_cuts p;have n:S06.stretch p=(S06.spot p:Int)-3071:=rfl;rw[n];have x:=S06.spot_le p;have E:S06.chance p≤4095:=by unfold S06.chance;omega
 generalize S06.spot p=k at *;generalize S06.chance p=c at *;clear n;go_enter Tryz.func76,Tryz.ntmps76;go_wp2_with fail;refine mnx w (C.out _) fun F M D K=> ?_;go_wp2;go_loopw [3,4] (fun i j wr=>∃a b:Nat,i = .int .i64 ((a:Int)-3071)∧j = .int .i64 ((b:Int)-3071)∧a≤k∧k≤b∧b≤6142∧Below w w wr) (fun i j _=>(intOf j-intOf i).toNat)
 case atStart=>exact⟨0,6142,rfl,rfl,by omega,x,by omega,D⟩
 case round=>
  obtain⟨a,b,rfl,rfl,y,u,v,f⟩:=hrel;by_cases G:a<b
  ·have J:(a:Int)-3071<(b:Int)-3071:=by omega
   obtain⟨m,A⟩:∃m,m=(a+b)/2:=⟨_,rfl⟩;have I:(a:Int)-3071+((b:Int)-3071-((a:Int)-3071))/2=(m:Int)-3071:=by omega
   have L:a≤m:=by omega
   have H:m<b:=by omega
   have r:=zC fun W=>zeA ((m:Int)-3071) W;have d:=B.2 m om;clear A;generalize S06.squash ((m:Int)-3071)=q at *;by_cases s:q<c
   ·have o:=d.1 s;clear d;go_wp2_with fail;refine mnb f (r.out _) fun z t g=> ?_;go_wp2;go_roundw
    case rel=>exact⟨m+1,b,by congr 1;push_cast;omega,rfl,by omega,u,v,g⟩
    case measure=>simp[intOf];omega
   ·have o:k≤m:=Nat.le_of_not_lt fun h=>s (d.2 h);clear d;go_wp2_with fail;refine mnb f (r.out _) fun z t g=> ?_;go_wp2;go_roundw
    case rel=>exact⟨a,m,rfl,rfl,y,o,by omega,g⟩
    case measure=>simp[intOf];omega
  ·obtain rfl:a=b:=by omega
   obtain rfl:a=k:=by omega
   exact mf1 f
def S06.round(n d:Int):Int:=if n<0 then -((2 * -n+d)/(2*d))else(2*n+d)/(2*d)
theorem S06.round_mono{m n d:Int}(a:0<d)(h:m≤n):S06.round m d≤S06.round n d:=by
 unfold S06.round;have k:∀x:Int,0≤x→0≤(2*x+d)/(2*d):=fun x b=>Int.ediv_nonneg om om;split
 ·split
  ·have:=Int.ediv_le_ediv (c:=2*d) om (show 2 * -n+d≤2 * -m+d by omega);omega
  ·have:=k (-m) om;have:=k n om;omega
 ·rw[zG om];exact Int.ediv_le_ediv om om
theorem S06.round_abs{n d B:Int}(f:1≤d)(i : -B≤n)(h:n≤B) : -B≤S06.round n d∧S06.round n d≤B:=by
 have a:∀x:Int,0≤x→(2*x+d)/(2*d)≤x:=fun x c=>by
  by_cases g:x=0
  ·subst g;exact Int.le_of_eq (Int.ediv_eq_zero_of_lt om om)
  ·refine Int.lt_add_one_iff.1 (Int.ediv_lt_of_lt_mul om ?_);have e:(x+1)*(2*d)=2*(x*d)+2*d:=by rw[Int.add_mul,Int.mul_left_comm,Int.one_mul]
   have:x*1≤x*d:=Int.mul_le_mul_of_nonneg_left f c;omega
 have b:∀x:Int,0≤x→0≤(2*x+d)/(2*d):=fun x c=>Int.ediv_nonneg om om;unfold S06.round;split
 ·have:=a (-n) om;have:=b (-n) om;omega
 ·have:=a n om;have:=b n om;omega
theorem zhH(x:Int)(w:World)(c : -1125899906842624≤x)(b:x≤1125899906842624):Calls Tryz.prog 100 #[x,.int .i64 2] w fun e a=>e = .returned (.int .i64 x)∧Below w w a:=by
 go_enter Tryz.func100,Tryz.ntmps100;go_wp2;go_quiet (fail);go_wp2;go_returns;refine⟨zbM om,zgF zo _⟩
theorem zpS(n d:Int)(w:World)(A:0≤n)(l:n≤1125899906842624)(g:1≤d)(m:d≤1048576):Calls Tryz.prog 232 #[n,d] w fun e b=>e = .returned (.int .i64 ((2*n+d)/(2*d)))∧Below w w b:=by
 have c:=zC fun W=>zhH n W om om;have f:=zC fun W=>zhH d W om om;have z:(d==0)=false:=by simp;omega
 have u:¬d=0:=by omega
 have o:¬d<0:=by omega
 have r:¬n<0:=by omega
 have D:IntKind.i64.wrap (2*n)=2*n:=IntWalk.i64_in _ om;have h:IntKind.i64.wrap (2*n+d)=2*n+d:=IntWalk.i64_in _ om;have p:IntKind.i64.wrap (2*d)=2*d:=IntWalk.i64_in _ om;have t:(2*n+d).tdiv (2*d)=(2*n+d)/(2*d):=zaF om;have B:0≤(2*n+d)/(2*d):=Int.ediv_nonneg om om;have y:(2*n+d)/(2*d)≤2*n+d:=Int.ediv_le_self _ om;have i:IntKind.i64.wrap ((2*n+d)/(2*d))=(2*n+d)/(2*d):=IntWalk.i64_in _ om;go_enter Tryz.func232,Tryz.ntmps232;go_wp2_with fail;refine mnx w (c.out _) fun k v C s=> ?_;go_wp2_with fail;refine mnx w (f.out _) fun x j a q=> ?_;go_wp2;go_returns;exact⟨by first|rfl|exact zbM om,a⟩
theorem zjV(n d:Int)(w:World)(m : -1125899906842624≤n)(c:n≤1125899906842624)(b:1≤d)(f:d≤1048576):Calls Tryz.prog 232 #[n,d] w fun e k=>e = .returned (.int .i64 (S06.round n d))∧Below w w k:=by
 by_cases g:n<0
 ·have a:S06.round n d = -((2 * -n+d)/(2*d)):=by unfold S06.round;rw[zQ g]
  have j:=S06.round_abs (n:=n) (d:=d) (B:=1125899906842624) b m c;rw[a]at j⊢;have h:=zC fun W=>zpS (-n) d W om om b f;have l:=zC fun W=>zhH n W om om;have o:=zC fun W=>zhH d W om om;have C:(d==0)=false:=by simp;omega
  have s:¬d<0:=by omega
  clear a;generalize (2 * -n+d)/(2*d)=q at *;go_enter Tryz.func232,Tryz.ntmps232;go_wp2_with fail;refine mnx w (l.out _) fun r A E x=> ?_;go_wp2_with fail;refine mnx w (o.out _) fun z p v u=> ?_;go_wp2_with fail;refine mnx w (h.out _) fun t D i y=> ?_;exact mf1 i
 ·have a:S06.round n d=(2*n+d)/(2*d):=by unfold S06.round;rw[zG g]
  rw[a];exact zpS n d w om c b f
theorem zgL(n d:Int)(w:World)(v : -1125899906842624≤n)(m:n≤1125899906842624)(h:1≤d)(A:d≤1048576):Calls Tryz.prog 79 #[n,d] w fun e q=>e = .returned (.int .i64 (S06.round n d))∧Below w w q:=by
 have c:=zC fun W=>zdJ n (-9007199254740991) 9007199254740991 W;have f:=zC fun W=>zdJ d (-9007199254740991) 9007199254740991 W;rw[show max (-9007199254740991) (min n 9007199254740991)=n by omega]at c;rw[show max (-9007199254740991) (min d 9007199254740991)=d by omega]at f;have G:(d==0)=false:=by simp;omega
 have C:¬d<0:=by omega
 have E:¬d=0:=by omega
 have D:IntKind.i64.wrap (2*d)=2*d:=IntWalk.i64_in _ om;by_cases g:n<0
 ·have a:S06.round n d = -((2 * -n+d)/(2*d)):=by unfold S06.round;rw[zQ g]
  have o:=S06.round_abs (n:=n) (d:=d) (B:=1125899906842624) h v m;rw[a]at o⊢;have z:IntKind.i64.wrap (-2*n)=2 * -n:=by rw[show -2*n=2 * -n by omega];exact IntWalk.i64_in _ om
  have i:IntKind.i64.wrap (2 * -n+d)=2 * -n+d:=IntWalk.i64_in _ om;have s:(2 * -n+d).tdiv (2*d)=(2 * -n+d)/(2*d):=zaF om;have x:0≤(2 * -n+d)/(2*d):=Int.ediv_nonneg om om;have j:IntKind.i64.wrap ((2 * -n+d)/(2*d))=(2 * -n+d)/(2*d):=IntWalk.i64_in _ om;clear a;go_enter Tryz.func79,Tryz.ntmps79;go_wp2_with fail;refine mnx w (c.out _) fun l t y r=> ?_;go_wp2_with fail;refine mnx w (f.out _) fun u k b p=> ?_;go_wp2;go_returns;exact⟨by first|rfl|exact zbM om,b⟩
 ·have a:S06.round n d=(2*n+d)/(2*d):=by unfold S06.round;rw[zG g]
  rw[a];have z:IntKind.i64.wrap (2*n)=2*n:=IntWalk.i64_in _ om;have i:IntKind.i64.wrap (2*n+d)=2*n+d:=IntWalk.i64_in _ om;have s:(2*n+d).tdiv (2*d)=(2*n+d)/(2*d):=zaF om;have x:0≤(2*n+d)/(2*d):=Int.ediv_nonneg om om;have F:(2*n+d)/(2*d)≤2*n+d:=Int.ediv_le_self _ om;have j:IntKind.i64.wrap ((2*n+d)/(2*d))=(2*n+d)/(2*d):=IntWalk.i64_in _ om;clear a;go_enter Tryz.func79,Tryz.ntmps79;go_wp2_with fail;refine mnx w (c.out _) fun l t y r=> ?_;go_wp2_with fail;refine mnx w (f.out _) fun u k b p=> ?_;go_wp2;go_returns;exact⟨by first|rfl|exact zbM om,b⟩
