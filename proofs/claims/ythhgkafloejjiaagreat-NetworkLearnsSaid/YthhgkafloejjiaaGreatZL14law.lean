/- A part of the proof of L14l. No condition. -/
import Derived.StillTail
import Derived.Test.YthhgkafloejjiaaGreatZL14lat
set_option linter.all false
set_option maxRecDepth 100000
set_option maxHeartbeats 2000000
namespace Go.Proofs.YthhgkafloejjiaaGreat
open Go.RowKit
theorem znZ(p:Int)(w:World):Calls Tryz.prog 267 #[p] w fun e k=>e = .returned (.agg #[(S11.at p),(S11.from p)])∧Below w w k:=by
 have l:=zC fun W=>zdA p W;have t:=S11.x_bounds p;have f:=zC (S11.at_int p);have d:S11.from p=(S06.stretch p+3072)%192:=rfl
 rw[d,←f.out];clear d f;generalize S06.stretch p=s at *;go_enter Tryz.func267,Tryz.ntmps267;go_wp2_with fail;refine mnx w (l.out _) fun h g r q=> ?_;have m:w.heap.size<h.heap.size:=by have:=g.size;simp at this;omega
 have a:=(Blk.new w [.int .i64 0,.int .i64 0] 280).step g;have n:=a.free 0;have o:=a.free 1;have i:=a.cell 0;have j:=a.cell 1;have c:=(a.set 0 (.int .i64 ((s+3072)/192))).cell 0;have b:=((a.set 0 (.int .i64 ((s+3072)/192))).set 1 (.int .i64 ((s+3072)%192))).cell 1;simp only[sC0,sCs,lgz,lgs]at i j c b;clear a;go_wp2;refine bodyPost_ret (v:=.agg #[.int .i64 ((s+3072)/192),.int .i64 ((s+3072)%192)]) (by simp[results,Tryz.results267,go_sem,c,b]) rfl ⟨rfl,?_⟩
 go_grown
theorem zsR(n cap c b o:Nat)(w:World)(g:33*(c+1)≤n)(d:n≤cap)(f:cap≤9223372036854775807) :
 Calls Tryz.prog 265 #[.agg #[.slice (some ⟨b,o,none⟩) n cap],c] w fun e a=>e = .returned (.slice (some ⟨b,o+33*c,none⟩) 33 33)∧Below w w a:=by
 go_enter Tryz.func265,Tryz.ntmps265;go_wp2;go_returns;exact⟨by rw[show 33*(c+1)-33*c=33 by omega];rfl,by go_grown⟩
theorem S11.mul_bounds{u f:Int}(c:0≤u)(b:u≤65535)(a:0≤f)(d:f≤192):0≤u*f∧u*f≤12582720:=by
 refine⟨Int.mul_nonneg c a,?_⟩;have:=Int.mul_le_mul b d a om;omega
theorem ztX(a:Nat)(f u v:Int)(b o:Nat)(w:World)(O:a≤31)(r:0≤f)(B:f≤191)(l:0≤u)(k:u≤65535)(p:0≤v)(x:v≤65535)
 (m:w.cell? ⟨b,o+a,none⟩=some (.int .i64 u)) (M:w.cell? ⟨b,o+(a+1),none⟩=some (.int .i64 v)) :
 Calls Tryz.prog 268 #[.slice (some ⟨b,o,none⟩) 33 33,.agg #[a,f]] w fun e s=>e = .returned (.int .i64 (S11.clamp (S11.mix u v f)))∧Below w w s:=by
 obtain⟨m1,m2⟩:=S11.mul_bounds l k (show 0≤192-f by omega) om;obtain⟨J,G⟩:=S11.mul_bounds p x r om;have D:IntKind.i64.wrap (192-f)=192-f:=IntWalk.i64_in _ om;have z:IntKind.i64.wrap (u*(192-f))=u*(192-f):=IntWalk.i64_in _ om;have H:IntKind.i64.wrap (v*f)=v*f:=IntWalk.i64_in _ om;have i:IntKind.i64.wrap (u*(192-f)+v*f)=u*(192-f)+v*f:=IntWalk.i64_in _ om;have N:(u*(192-f)+v*f).tdiv 192=(u*(192-f)+v*f)/192:=zaF om;have A:IntKind.i64.wrap ((u*(192-f)+v*f)/192)=(u*(192-f)+v*f)/192:=IntWalk.i64_in _ om;have K:IntKind.i64.wrap ((a:Int)+1)=(a:Int)+1:=IntWalk.i64_in _ om;have E:((a:Int)+1).toNat=a+1:=by omega
 have L:(a:Int)<33:=by omega
 have P:(0:Int)≤(a:Int)+1:=by omega
 have Q:(a:Int)+1<33:=by omega
 have C:a<33:=by omega
 have T:a+1<33:=by omega
 have R:(0:Int)≤(a:Int):=by omega
 have S:=zE m;go_enter Tryz.func268,Tryz.ntmps268;go_wp2;refine zbX 21 (Keeps (w.alloc (Obj.cells #[a,f] 280)) [(⟨w,0,none⟩,a),(⟨w,1,none⟩,f),(⟨b,o+a,none⟩,u),(⟨b,o+(a+1),none⟩,v)]) zk rfl zk (Keeps.start (by simp only[Cells];refine⟨?_,?_,?_,?_,zT⟩<;>go_simp)) (fun Y F hY g=> ?_)
 repeat
  apply yN (by rw[hY];rfl)
  ·intro z ⟨I,j⟩;simp only[Cells]at j;go_simp;with_reducible rfl
  simp only[zvF]
 refine g.out _ (fun i c=> ?_);clear g hY;have q:Below w w i:=zA zo c.1;clear c;have h:S11.mix u v f=(u*(192-f)+v*f)/192:=rfl;have d:∀n:Int,S11.clamp n=min (max (n/16) 1) 4095:=fun n=>by unfold S11.clamp;omega
 obtain⟨y,t⟩:=zh2 h d;clear h d;go_wp2;go_returns;exact⟨zbM (by rw[t.out,y.out]),q⟩
theorem S11.getD_bounds{xs:List Int}(h:xs.any S11.bad=false){i:Nat}(a:i<xs.length):0≤xs.getD i 0∧xs.getD i 0≤65535:=by
 rw[List.any_eq_false]at h;have:=h xs[i] (yR a);simp[S11.bad]at this;rw[zK,zD a];simp;omega
theorem S11.check_zero{xs:List Int}(h:S11.check xs=0):xs.length%33=0∧33≤xs.length∧xs.length≤2162688∧xs.any S11.bad=false:=by
 by_cases a:xs.length%33≠0∨xs.length<33∨2162688<xs.length
 ·rw[S11.check_long a]at h;omega
 ·rw[S11.check_fit a]at h;refine⟨by omega,by omega,by omega,?_⟩;cases hb:xs.any S11.bad with
  | false=>rfl
  | true=>rw[hb]at h;simp at h
theorem S11.usable_zero{xs:List Int}{c p:Int}(h:S11.usable xs c p=0):S11.check xs=0∧0≤c∧c<(xs.length/33:Nat)∧1≤p∧p≤4095:=by
 unfold S11.usable at h;split at h
 ·omega
 ·split at h
  ·omega
  ·split at h
   ·omega
   ·omega
def S11.refineR(xs:List Int)(c p:Int):Int:=if S11.usable xs c p=0 then S11.refine xs c.toNat p else 0
theorem refine11_any(xs:List Int)(a:Option Addr)(cap:Nat)(c p:Int)(w:World)(F:xs.length≤cap)(G:cap≤9223372036854775807)(j:Rd w a (zaE xs)) :
 Calls Tryz.prog 262 #[.agg #[.slice a xs.length cap],c,p] w fun e K=>e = .returned (.tuple #[(S11.refineR xs c p),(S11.usable xs c p)])∧Below w w K:=by
 have l:=zC fun W (h:Below w w W)=>znQ xs a cap c p W om (j.step h);by_cases b:S11.usable xs c p=0
 ·obtain⟨z,J,k3,k4,U⟩:=S11.usable_zero b;obtain⟨O,q2,Y,q⟩:=S11.check_zero z;obtain⟨c,rfl⟩:=Int.eq_ofNat_of_zero_le J;have d:S11.refineR xs c p=S11.refine xs c p:=by unfold S11.refineR;rw[zQ b];rfl
  rw[d];rw[b]at l⊢;have D:33*(c+1)≤xs.length:=by omega
  have P:=S11.at_le p;have A:=S11.from_bounds p;have s:=S11.getD_bounds q (i:=33*c+S11.at p) om;have m:=S11.getD_bounds q (i:=33*c+S11.at p+1) om;obtain⟨g,o,rfl,v⟩:=j.at (i:=0) (by rw[zR];omega);have x:w.cell? ⟨g,o+33*c+S11.at p,none⟩=some (.int .i64 (xs.getD (33*c+S11.at p) 0)):=by
   have:=v (33*c+S11.at p) (by rw[zR];omega);rw[zcE,this];simp[zaE,zK,zD (show 33*c+S11.at p<xs.length by omega)]
  have t:w.cell? ⟨g,o+33*c+(S11.at p+1),none⟩=some (.int .i64 (xs.getD (33*c+S11.at p+1) 0)):=by
   have:=v (33*c+(S11.at p+1)) (by rw[zR];omega);rw[zcE,this];simp[zaE,zK,←zcE,zD (show 33*c+S11.at p+1<xs.length by omega)]
  have H:=zC fun W (h:Below w w W)=>ztX (S11.at p) (S11.from p) _ _ g (o+33*c) W P A.1 A.2 s.1 s.2 m.1 m.2 ((h.cell (zE x)).trans x) ((h.cell (zE t)).trans t);have L:=zC fun W=>znZ p W;have B:S11.refine xs c p=S11.clamp (S11.mix (xs.getD (33*c+S11.at p) 0) (xs.getD (33*c+S11.at p+1) 0) (S11.from p)):=rfl;rw[B];have M:=zC fun W=>zsR xs.length cap c g o W D F G;clear x t v s m B j z O q b d;generalize S11.clamp (S11.mix (xs.getD (33*c+S11.at p) 0) (xs.getD (33*c+S11.at p+1) 0) (S11.from p))=r at *;generalize S11.at p=aa at *;generalize S11.from p=f at *
  generalize xs.length=n at *;go_enter Tryz.func262,Tryz.ntmps262;go_wp2_with fail;refine mnx w (l.out _ zo) fun k u C N=> ?_;have z:k.cell? ⟨w,0,none⟩=some (.slice (some ⟨g,o,none⟩) n cap):=(u.cell by6).trans (by go_simp);have T:w.heap.size<k.heap.size:=by have:=u.size;simp at this;omega
  go_wp2_with fail;refine mnx w (M.out _) fun w2 S Z X=> ?_;go_wp2_with fail;refine mnx w (L.out _) fun V ad E z3=> ?_;go_wp2_with fail;refine mnx w (H.out _ E) fun Q ac I R=> ?_;exact mf1 I
 ·have d:S11.refineR xs c p=0:=by unfold S11.refineR;rw[zG b]
  have ab:((S11.usable xs c p:Int) != 0)=true:=by simpa using b
  rw[d];clear b d j;generalize S11.usable xs c p=y at *;generalize xs.length=n at *;go_enter Tryz.func262,Tryz.ntmps262;go_wp2_with fail;refine mnx w (l.out _ zo) fun k u C N=> ?_;exact mf1 C
theorem zjM(xs:List Int)(a:Option Addr)(cap:Nat)(w:World)(Q:xs.length≤9223372036854775807)(q:Rd w a (zaE xs)) :
 Calls Tryz.prog 75 #[.agg #[.slice a xs.length cap]] w fun e I=>e = .returned (.int .i64 (S11.check xs))∧Below w w I:=by
 by_cases c:xs.length%33≠0∨xs.length<33∨2162688<xs.length
 ·rw[S11.check_long c];have d:(((xs.length:Int)==0)=true)∨(((xs.length:Int)==0)=false∧((xs.length:Int)%33 != 0)=true)∨(((xs.length:Int)==0)=false∧((xs.length:Int)%33 != 0)=false∧(2162688:Int)<xs.length):=by
   by_cases z:xs.length=0
   ·left;simp[z]
   ·right;have p:(((xs.length:Int)==0)=false):=by simp;intro h;exact z (by simp[h])
    by_cases L:xs.length%33=0
    ·have A:(((xs.length:Int)%33 != 0)=false):=by simp;omega
     right;exact⟨p,A,by omega⟩
    ·left;exact⟨p,by simp;omega⟩
  clear c q;generalize xs.length=n at *;rcases d with d|⟨d,H⟩|⟨d,H,O⟩
  all_goals
   go_enter Tryz.func75,Tryz.ntmps75;exact mf4
 ·rw[S11.check_fit c];have L:(((xs.length:Int)%33 != 0)=false):=by simp;omega
  have p:(((xs.length:Int)==0)=false):=by simp;intro h;simp[h]at c
  have A:¬(2162688:Int)<xs.length:=by omega
  have P:0<xs.length:=by omega
  obtain⟨g,o,rfl,_⟩:=q.at (i:=0) (by rw[zR];omega);obtain⟨r,t⟩:∃r:Int,r=(if xs.any S11.bad=true then 2 else 0):=⟨_,rfl⟩;rw[←t];have j:=zC t;clear c t;go_enter Tryz.func75,Tryz.ntmps75;go_wp2;have D:=Blk.new w [.slice (some ⟨g,o,none⟩) xs.length cap] 48;go_loopw [4] (fun i wr=>∃k:Nat,k≤xs.length∧i = .int .i64 k∧(xs.take k).any S11.bad=false∧Blk wr w [.slice (some ⟨g,o,none⟩) xs.length cap] 48∧Below w w wr) (fun i _=>xs.length-(intOf i).toNat)
  case atStart=>exact⟨0,by omega,rfl,rfl,D,by go_grown⟩
  case round=>
   obtain⟨k,T,rfl,v,u,b⟩:=hrel;have S:w.heap.size≤wr.heap.size:=b.size;obtain⟨B,G⟩:=zh2 v u;have F:=u.cell 0;simp only[lgz]at F;clear v u D;by_cases f:k<xs.length
   ·obtain⟨J,E,s,C⟩:=(q.step b).at (i:=k) (by rw[zR];exact f);obtain⟨rfl,rfl⟩:g=J∧o=E:=by simp at s;exact s
    have R:wr.cell? ⟨g,o+k,none⟩=some (.int .i64 xs[k]):=by rw[C k (by rw[zR];exact f)];simp[zaE]
    obtain⟨M,y⟩:=zh2 (zcA S11.bad xs k f) (zfA S11.bad xs k f);generalize xs[k]=x at *;clear C s;by_cases N:x<0
    ·have l:=zC (y.out (by simp[S11.bad,N]));go_wp2;go_returns;exact⟨by rw[j.out,l.out];rfl,b⟩
    ·by_cases K:65535<x
     ·have l:=zC (y.out (by simp[S11.bad,K]));go_wp2;go_returns;exact⟨by rw[j.out,l.out];rfl,b⟩
     ·have m:=zC (show(xs.take (k+1)).any S11.bad=false by rw[M.out,B.out];simp[S11.bad];omega);go_wp2;go_roundw
      case rel=>exact⟨k+1,by omega,by go_num,m.out,G.out,b⟩
      case measure=>simp[intOf];omega
   ·obtain rfl:k=xs.length:=by omega
    have m:=zC (show xs.any S11.bad=false by have:=B.out;rwa[zaD]at this);go_wp2;go_returns;exact⟨by rw[j.out,m.out];rfl,b⟩
theorem znW(xs:List Int)(a:Option Addr)(cap:Nat)(c p:Int)(w:World)(r:xs.length≤9223372036854775807)(q:Rd w a (zaE xs)) :
 Calls Tryz.prog 92 #[.agg #[.slice a xs.length cap],c,p] w fun e t=>e = .returned (.int .i64 (S11.usable xs c p))∧Below w w t:=by
 have h:=zC fun W (s:Below w w W)=>zjM xs a cap W r (q.step s);unfold S11.usable;have o:((xs.length/33:Nat):Int)=(xs.length:Int)/33:=by omega
 rw[o];clear q o;generalize S11.check xs=y at *;generalize xs.length=n at *;by_cases i:y=0
 ·subst i;rw[zG by1];by_cases k:c<0∨(n:Int)/33≤c
  ·rw[zQ k];have g:c<0∨(¬c<0∧(n:Int)/33≤c):=by omega
   clear k;rcases g with g|⟨g,m⟩
   all_goals
    go_enter Tryz.func92,Tryz.ntmps92;go_wp2_with fail;refine mnx w (h.out _ zo) fun b d f j=> ?_;have B:b.cell? ⟨w,0,none⟩=some (.slice a n cap):=(d.cell by6).trans (by go_simp);have l:w.heap.size<b.heap.size:=by have:=d.size;simp at this;omega
    exact mf1 f
  ·rw[zG k];have C:¬c<0:=by omega
   have v:¬(n:Int)/33≤c:=by omega
   clear k;have g:(p<1)∨(¬p<1∧4095<p)∨(¬p<1∧¬4095<p):=by omega
   rcases g with g|⟨g,m⟩|⟨g,m⟩
   ·rw[zQ om];go_enter Tryz.func92,Tryz.ntmps92;go_wp2_with fail;refine mnx w (h.out _ zo) fun b d f j=> ?_;have x:b.cell? ⟨w,0,none⟩=some (.slice a n cap):=(d.cell by6).trans (by go_simp);have l:w.heap.size<b.heap.size:=by have:=d.size;simp at this;omega
    exact mf1 f
   ·rw[zQ om];go_enter Tryz.func92,Tryz.ntmps92;go_wp2_with fail;refine mnx w (h.out _ zo) fun b d f j=> ?_;have z:b.cell? ⟨w,0,none⟩=some (.slice a n cap):=(d.cell by6).trans (by go_simp);have l:w.heap.size<b.heap.size:=by have:=d.size;simp at this;omega
    exact mf1 f
   ·rw[zG om];go_enter Tryz.func92,Tryz.ntmps92;go_wp2_with fail;refine mnx w (h.out _ zo) fun b d f j=> ?_;have A:b.cell? ⟨w,0,none⟩=some (.slice a n cap):=(d.cell by6).trans (by go_simp);have l:w.heap.size<b.heap.size:=by have:=d.size;simp at this;omega
    exact mf1 f
 ·rw[zQ i];have u:((y:Int) != 0)=true:=by simpa using i
  clear i;go_enter Tryz.func92,Tryz.ntmps92;go_wp2_with fail;refine mnx w (h.out _ zo) fun b d f j=> ?_;exact mf1 f
theorem zqC(xs:List Int)(a:Option Addr)(cap:Nat)(c p:Int)(w:World)(am:xs.length≤cap)(aq:cap≤9223372036854775807)(k:Rd w a (zaE xs)) :
 Calls Tryz.prog 81 #[.agg #[.slice a xs.length cap],c,p] w fun e N=>e = .returned (.tuple #[(S11.refineR xs c p),(S11.usable xs c p)])∧Below w w N:=by
 have l:=zC fun W (L:Below w w W)=>znW xs a cap c p W om (k.step L);by_cases d:S11.usable xs c p=0
 ·obtain⟨E,k2,k3,k4,K⟩:=S11.usable_zero d;obtain⟨q1,q2,q3,s⟩:=S11.check_zero E;obtain⟨c,rfl⟩:=Int.eq_ofNat_of_zero_le k2;have h:S11.refineR xs c p=S11.refine xs c p:=by unfold S11.refineR;rw[zQ d];rfl
  rw[h];rw[d]at l⊢;have ap:33*(c+1)≤xs.length:=by omega
  have ai:=S11.at_le p;have ab:=S11.from_bounds p;have V:=S11.getD_bounds s (i:=33*c+S11.at p) om;have Z:=S11.getD_bounds s (i:=33*c+S11.at p+1) om;obtain⟨g,o,rfl,t⟩:=k.at (i:=0) (by rw[zR];omega);have D:w.cell? ⟨g,o+(33*c+S11.at p),none⟩=some (.int .i64 (xs.getD (33*c+S11.at p) 0)):=by
   have:=t (33*c+S11.at p) (by rw[zR];omega);rw[this];simp[zaE,zK,zD (show 33*c+S11.at p<xs.length by omega)]
  have P:w.cell? ⟨g,o+(33*c+S11.at p+1),none⟩=some (.int .i64 (xs.getD (33*c+S11.at p+1) 0)):=by
   have:=t (33*c+S11.at p+1) (by rw[zR];omega);rw[this];simp[zaE,zK,zD (show 33*c+S11.at p+1<xs.length by omega)]
  have H:=zE D;have af:=zC fun W=>zbK p W;have B:S11.refine xs c p=S11.clamp (S11.mix (xs.getD (33*c+S11.at p) 0) (xs.getD (33*c+S11.at p+1) 0) (S11.from p)):=rfl;rw[B];have an:=S11.x_bounds p;have aj:=S11.at_int p;have au:(S06.stretch p+3072)%192=S11.from p:=rfl
  clear t B k E q1 s d h;generalize S06.stretch p=st at *;generalize xs.getD (33*c+S11.at p) 0=u at *;generalize xs.getD (33*c+S11.at p+1) 0=v at *;generalize S11.at p=b at *;generalize S11.from p=f at *
  generalize xs.length=n at *;obtain⟨d,J⟩:=V;obtain⟨hv,ac⟩:=Z;obtain⟨hf,al⟩:=ab;obtain⟨m1,m2⟩:=S11.mul_bounds d J (show 0≤192-f by omega) om;obtain⟨m3,m4⟩:=S11.mul_bounds hv ac hf om;have C:S11.mix u v f=(u*(192-f)+v*f)/192:=rfl;have z:∀n:Int,S11.clamp n=max 1 (min (n/16) 4095):=fun n=>rfl;obtain⟨Hm,O⟩:=zh2 C z;clear C z;go_enter Tryz.func81,Tryz.ntmps81;go_wp2_with fail;refine mnx w (l.out _ zo) fun q m G z1=> ?_;have K:q.cell? ⟨w,0,none⟩=some (.slice (some ⟨g,o,none⟩) n cap):=(m.cell by6).trans (by go_simp);have ar:w.heap.size<q.heap.size:=by have:=m.size;simp at this;omega
  go_wp2_with fail;refine mnx w (af.out _) fun j ae r z2=> ?_;have k6:j.cell? ⟨w,0,none⟩=some (.slice (some ⟨g,o,none⟩) n cap):=(ae.cell by6).trans (by go_simp);have ao:j.cell? ⟨g,o+(33*c+b),none⟩=some (.int .i64 u):=(r.cell H).trans D;have ak:j.cell? ⟨g,o+(33*c+b+1),none⟩=some (.int .i64 v):=(r.cell (p:=⟨g,o+(33*c+b+1),none⟩) H).trans P;go_wp2;have R:IntKind.i64.wrap (192-f)=192-f:=IntWalk.i64_in _ om;have S:IntKind.i64.wrap (u*(192-f))=u*(192-f):=IntWalk.i64_in _ om;have aa:IntKind.i64.wrap (v*f)=v*f:=IntWalk.i64_in _ om;have T:IntKind.i64.wrap (u*(192-f)+v*f)=u*(192-f)+v*f:=IntWalk.i64_in _ om;have ag:(u*(192-f)+v*f).tdiv 192=(u*(192-f)+v*f)/192:=zaF om;have Q:IntKind.i64.wrap ((u*(192-f)+v*f)/192)=(u*(192-f)+v*f)/192:=IntWalk.i64_in _ om;have U:IntKind.i64.wrap (33*(c:Int)+(b:Int)+1)=33*(c:Int)+(b:Int)+1:=IntWalk.i64_in _ om;have ah:(33*(c:Int)+(b:Int)+1).toNat=33*c+b+1:=by omega
  have ad:(33*(c:Int)+(b:Int)).toNat=33*c+b:=by omega
  have i1:33*(c:Int)+(b:Int)<n:=by omega
  have i2:(0:Int)≤33*(c:Int)+(b:Int):=by omega
  have i3:33*(c:Int)+(b:Int)+1<n:=by omega
  have i4:(0:Int)≤33*(c:Int)+(b:Int)+1:=by omega
  have i5:33*c+b<n:=by omega
  have i6:33*c+b+1<n:=by omega
  refine zbX 19 (Keeps j [(⟨w,0,none⟩,.slice (some ⟨g,o,none⟩) n cap),(⟨g,o+(33*c+b),none⟩,u),(⟨g,o+(33*c+b+1),none⟩,v)]) zk rfl zk (Keeps.start (by simp only[Cells];refine⟨?_,?_,?_,zT⟩<;>go_simp)) (fun Y F hY A=> ?_)
  repeat
   apply yN (by rw[hY];rfl)
   ·intro j ⟨r,I⟩;simp only[Cells]at I;go_simp;with_reducible rfl
   simp only[zvF]
  refine A.out _ (fun X x=> ?_);clear A hY R S aa T ag Q U ah ad;have M:Below w w X:=zA zo x.1;clear x;go_wp2;go_returns;exact⟨by rw[O.out,Hm.out];rfl,M⟩
 ·have h:S11.refineR xs c p=0:=by unfold S11.refineR;rw[zG d]
  have av:((S11.usable xs c p:Int) != 0)=true:=by simpa using d
  rw[h];clear d h k;generalize S11.usable xs c p=y at *;generalize xs.length=n at *;go_enter Tryz.func81,Tryz.ntmps81;go_wp2_with fail;refine mnx w (l.out _ zo) fun q m G z1=> ?_;exact mf1 G
def Copied(w0:World)(xs:List Int)(V:Value)(w':World):Prop:=
 ∃g cap,V = .slice (some ⟨g,0,none⟩) xs.length cap∧xs.length≤cap∧cap≤9223372036854775807∧w'.ownsRow w0.heap.size 3 1 (.slice (some ⟨g,0,none⟩) xs.length cap) xs.length (zaE xs)∧Below w0 w0 w'
theorem copied_of{c w':World}{xs:List Int}{a:Option Addr}{cap:Nat}(h:w'.ownsRow c.heap.size 3 1 (.slice a xs.length cap) xs.length (zaE xs))(j:Below c c w')(l:1≤xs.length):Copied c xs (.slice a xs.length cap) w':=by
 obtain⟨g,o,rfl,_⟩:=(Rd.of_owns h).at (i:=0) (by rw[zR];omega);obtain rfl:o=0:=by
  rcases h.2 with⟨b,_⟩|⟨n,k,m,b,_⟩
  ·simp at b
  ·simp at b;exact b.1.2
 obtain⟨_,_,e,f,d⟩:=zaV h;simp at e;obtain⟨rfl,rfl⟩:=e;unfold maxLen at d;exact⟨g,_,rfl,f,d,h,j⟩
theorem clone11_any(xs:List Int)(g o cap:Nat)(w:World)(q:1≤xs.length)(t:xs.length≤2162688)(m:Rd w (some ⟨g,o,none⟩) (zaE xs)) :
 Calls Tryz.prog 208 #[.slice (some ⟨g,o,none⟩) xs.length cap] w fun e l=>∃V,e = .returned V∧Copied w xs V l:=by
 have u:∀(w:World) (a:Option Addr) (n c f d:Nat),(binOp .eql 41 (.slice a n c) (.slice none f d)).run Tryz.prog w = .ok (.bool a.isNone) w:=fun w a n c f d=>Lib.run_eql_slice_nil w _ _ a n c f d Tryz.underlying41;have r:=zC (m.step ((zJ w.heap.size w).alloc (zF _) (Obj.cells #[] 3)));go_enter Tryz.func208,Tryz.ntmps208;go_wp2_with (at_builtin;refine yQ _ _ 41 3 1 8 _ w.heap.size elems_ints rfl rfl _ 0 [] rfl (World.ownsRow_made w #[] 0 (zF _) by2 rfl) (some ⟨g,o,none⟩) xs.length cap (zaE xs) rfl (by simp[zaE]) r.out (zgH xs) by5 om by1 ?_;intro v s p b h);have j:Below w w p:=Below.grown zo h by1 (fun k e=>by cases e;exact zF _);simp only[yE,lna]at b;have i:=zC (copied_of b j q);clear h b;go_wp2;go_returns;first|exact⟨_,rfl,i.out⟩|(refine⟨_,rfl,?_⟩;simpa using i.out)
theorem copy_facts{w a:World}{xs:List Int}{b:Option Addr}{c:Nat}{x:Value}(f:a.ownsRow w.heap.size 3 1 (.slice b xs.length c) xs.length (zaE xs))(j:1≤xs.length)
 (l:((w.alloc (Obj.cells #[x] 48)).alloc (Obj.cells #[.slice none 0 0] 48)).grownBy a (Value.slice none 0 0).ownBlock) :
 w.heap.size+1<a.heap.size∧a.cell? ⟨w.heap.size+1,0,none⟩=some (.slice none 0 0)∧a.frozen? ⟨w.heap.size+1,0,none⟩=false∧
 (a.setCell ⟨w.heap.size+1,0,none⟩ (.slice b xs.length c)).cell? ⟨w.heap.size+1,0,none⟩=some (.slice b xs.length c)∧Copied w xs (.slice b xs.length c) (a.setCell ⟨w.heap.size+1,0,none⟩ (.slice b xs.length c)):=by
 have g:Below (w.heap.size+2) ((w.alloc (Obj.cells #[x] 48)).alloc (Obj.cells #[.slice none 0 0] 48)) a:=Below.grown (zJ _ _) l by1 (fun k e=>by cases e);have h:Below w w a:=(by go_grown:Below w w _).trans (g.mono om);have d:Blk a (w.heap.size+1) [.slice none 0 0] 48:=by
  have m:=Blk.new (w.alloc (Obj.cells #[x] 48)) [.slice none 0 0] 48;have:=m.below g by1;simpa using this
 refine⟨d.lt,d.cell 0,d.free 0,(d.set 0 _).cell 0,?_⟩;have i:=zaS f d by2;exact copied_of (f.kept (yZ _ _ _ _) (.inr i)) (h.setCell by1 _) j
theorem copy11_any(xs:List Int)(g o cap:Nat)(w:World)(n:1≤xs.length)(r:xs.length≤2162688)(k:Rd w (some ⟨g,o,none⟩) (zaE xs)) :
 Calls Tryz.prog 93 #[.agg #[.slice (some ⟨g,o,none⟩) xs.length cap]] w fun e j=>∃V,e = .returned (.agg #[V])∧Copied w xs V j:=by
 have p:=zC fun W (h:Below w w W)=>k.step h;go_enter Tryz.func93,Tryz.ntmps93;go_wp2_with (at_builtin;refine yQ _ _ 41 3 1 8 _ w.heap.size elems_ints rfl rfl _ 0 [] rfl (World.ownsRow_nil _ _ _ _) (some ⟨g,o,none⟩) xs.length cap (zaE xs) rfl (by simp[zaE]) (p.out _ zo) (zgH xs) by5 om by7 ?_;intro i d u a b;simp only[yE,lna]at a⊢;have l:=copy_facts a n b;obtain⟨t,q,s,f,c⟩:=l;have m:=zC c;clear c a b);refine bodyPost_ret (v:=.agg #[.slice i xs.length d]) (by simp[results,Tryz.results93,go_sem,f]) rfl ⟨_,rfl,?_⟩;exact m.out
theorem S11.learn_facts{u bit rate share:Int}(c:0≤u)(m:u≤65535)(v:bit=0∨bit=1)(i:0≤rate)(g:rate≤255)(p:0≤share)(t:share≤192) :
 -16711425≤(65535*bit-u)*rate∧(65535*bit-u)*rate≤16711425∧ -3208593600≤(65535*bit-u)*rate*share∧(65535*bit-u)*rate*share≤3208593600∧
 0≤S11.learn u bit rate share∧S11.learn u bit rate share≤65535:=by
 obtain⟨d,l⟩:∃d,d=65535*bit-u:=⟨_,rfl⟩;obtain⟨k,j⟩:∃k,k=rate*share:=⟨_,rfl⟩;have n:0≤k:=by rw[j];exact Int.mul_nonneg i p
 have a:k≤48960:=by
  rw[j];have:=Int.mul_le_mul g t p om;omega
 have e:(65535*bit-u)*rate*share=d*k:=by rw[←l,j,Int.mul_assoc]
 unfold S11.learn;rw[e,←l];have q:(bit=0∧d = -u)∨(bit=1∧d=65535-u):=by
  rcases v with rfl|rfl
  ·left;exact⟨rfl,by omega⟩
  ·right;exact⟨rfl,by omega⟩
 have b:∀(x y Y:Int),0≤x→x≤65535→0≤y→y≤Y→0≤x*y∧x*y≤65535*Y:=fun x y Y C s o z=>
  ⟨Int.mul_nonneg C o,Int.mul_le_mul s z o om⟩
 rcases q with⟨_,h⟩|⟨_,h⟩
 ·have B:=b u rate 255 c m i g;have f:=b u k 48960 c m n a;have A:u*k≤u*48960:=Int.mul_le_mul_of_nonneg_left a c;have r:d*rate = -(u*rate):=by rw[h,Int.neg_mul]
  have w:d*k = -(u*k):=by rw[h,Int.neg_mul]
  rw[r,w,Int.neg_tdiv,zaF f.1];omega
 ·have B:=b d rate 255 om om i g;have f:=b d k 48960 om om n a;have A:d*k≤d*48960:=Int.mul_le_mul_of_nonneg_left a om;rw[zaF f.1];omega
theorem learn11_any(k:Nat)(u bit rate share:Int)(b o:Nat)(w:World)(W:k≤32)(x:0≤u)(s:u≤65535)(y:bit=0∨bit=1)(N:0≤rate)(B:rate≤255)(G:0≤share)(v:share≤192)
 (l:w.cell? ⟨b,o+k,none⟩=some (.int .i64 u)) (E:w.frozen? ⟨b,o+k,none⟩=false) :
 Calls Tryz.prog 266 #[.slice (some ⟨b,o,none⟩) 33 33,k,bit,rate,share] w fun e a=>
  e = .returned (.tuple #[])∧∃g,Below w w g∧a=g.setCell ⟨b,o+k,none⟩ (.int .i64 (S11.learn u bit rate share)):=by
 obtain⟨C,H,D,t,X,P⟩:=S11.learn_facts x s y N B G v;have Z:0≤bit∧bit≤1:=by omega
 have O:IntKind.i64.wrap (65535*bit)=65535*bit:=IntWalk.i64_in _ om;have n:IntKind.i64.wrap (65535*bit-u)=65535*bit-u:=IntWalk.i64_in _ om;have A:IntKind.i64.wrap ((65535*bit-u)*rate)=(65535*bit-u)*rate:=IntWalk.i64_in _ om;have r:IntKind.i64.wrap ((65535*bit-u)*rate*share)=(65535*bit-u)*rate*share:=IntWalk.i64_in _ om;have m:u+((65535*bit-u)*rate*share).tdiv 49152=S11.learn u bit rate share:=rfl;obtain⟨q,d⟩:∃q,q=((65535*bit-u)*rate*share).tdiv 49152:=⟨_,rfl⟩;have i:u+q=S11.learn u bit rate share:=by rw[d];exact m
 have M:IntKind.i64.wrap (((65535*bit-u)*rate*share).tdiv 49152)=q:=by rw[←d];exact IntWalk.i64_in _ om
 have I:IntKind.i64.wrap (u+q)=S11.learn u bit rate share:=by rw[i];exact IntWalk.i64_in _ om
 have S:(k:Int)<33:=by omega
 have T:(0:Int)≤(k:Int):=by omega
 have U:k<33:=by omega
 have J:=zE l;clear m d i C H D t;generalize S11.learn u bit rate share=L at *;go_enter Tryz.func266,Tryz.ntmps266;refine zbJ 17 2 _ _ (Keeps w [(⟨b,o+k,none⟩,u)]) zk (zU 17 _).symm rfl rfl zk (Keeps.start (by simp only[Cells];exact⟨l,zT⟩)) (fun Y F hY j=> ?_);simp only[ltc,ltz,ldc,ldz]
 repeat
  apply yN (by rw[hY];rfl)
  ·intro V ⟨R,c⟩;simp only[Cells]at c;go_simp;with_reducible rfl
  simp only[zvF]
 refine j.out _ (fun K a z f=> ?_);have h:=f.1;have c:=f.2;simp only[Cells]at c;have Q:a.frozen? ⟨b,o+k,none⟩=false:=by rw[h.frozen (p:=⟨b,o+k,none⟩) J];exact E
 clear j hY f O n A r M I;go_wp2_with fail;refine mok z ?_;go_wp2;go_returns;exact⟨rfl,a,h,rfl⟩
def MapIs(L:List Int)(V:Value)(w':World):Prop:=∃a cap,V = .agg #[.slice a L.length cap]∧L.length≤cap∧cap≤9223372036854775807∧Rd w' a (zaE L)
def MapNew(B:Nat)(L:List Int)(V:Value)(w':World):Prop:=∃b cap,V = .agg #[.slice (some ⟨b,0,none⟩) L.length cap]∧B≤b∧L.length≤cap∧cap≤9223372036854775807∧Rd w' (some ⟨b,0,none⟩) (zaE L)
theorem MapNew.is{B:Nat}{L:List Int}{V:Value}{w:World}(h:MapNew B L V w):MapIs L V w:=by
 obtain⟨b,f,e,_,d,a,c⟩:=h;exact⟨_,f,e,d,a,c⟩
theorem MapIs.step{L:List Int}{V:Value}{w w':World}(h:MapIs L V w)(d:Below w w w'):MapIs L V w':=by
 obtain⟨a,g,e,f,b,c⟩:=h;exact⟨a,g,e,f,b,c.step d⟩
theorem S11.update_length(xs:List Int)(c:Nat)(p bit rate:Int):(S11.update xs c p bit rate).length=xs.length:=by simp[S11.update]
theorem zpA(xs:List Int)(i:Nat)(v:Int):zaE (xs.set i v)=(zaE xs).set i (.int .i64 v):=by simp[zaE,List.map_set]
theorem zpB{xs:List Int}{i:Nat}(h:i<xs.length):(zaE xs)[i]? = some (.int .i64 (xs.getD i 0)):=by
 simp[zaE,zK,zD h]
theorem update11_ok(xs:List Int)(g o cap c:Nat)(p bit rate:Int)(w:World)(aG:xs.length≤cap)(a0:cap≤9223372036854775807)(Q:Rd w (some ⟨g,o,none⟩) (zaE xs))
 (hu:S11.usable xs c p=0) (U:bit=0∨bit=1) (hr:1≤rate) (aE:rate≤255) :
 Calls Tryz.prog 261 #[.agg #[.slice (some ⟨g,o,none⟩) xs.length cap],c,p,bit,rate] w fun e w'=>
  ∃V,e = .returned (.tuple #[V,.int .i64 0])∧MapNew w.heap.size (S11.update xs c p bit rate) V w'∧Below w w w':=by
 have J:=zC fun W (h:Below w w W)=>znQ xs (some ⟨g,o,none⟩) cap c p W om (Q.step h);obtain⟨D,k2,k3,k4,k5⟩:=S11.usable_zero hu;obtain⟨q1,q2,q3,X⟩:=S11.check_zero D;rw[hu]at J;have am:33*(c+1)≤xs.length:=by omega
 have aV:=S11.at_le p;have aJ:=S11.from_bounds p;have b1:=S11.getD_bounds X (i:=33*c+S11.at p) om;have b2:=S11.getD_bounds X (i:=33*c+S11.at p+1) om;have ae:=zC fun W (h:Below w w W)=>clone11_any xs g o cap W om q3 (Q.step h);have aK:=zC fun W=>znZ p W;have ak:=zpB (xs:=xs) (i:=33*c+S11.at p) om;have ad:=zpB (xs:=xs) (i:=33*c+S11.at p+1) om;obtain⟨ab,aO,aM⟩:=zh3 (show S11.update xs c p bit rate=(xs.set (33*c+S11.at p) (S11.learn (xs.getD (33*c+S11.at p) 0) bit rate (192-S11.from p))).set (33*c+S11.at p+1) (S11.learn (xs.getD (33*c+S11.at p+1) 0) bit rate (S11.from p))from rfl) ak ad;have ax:0≤bit∧bit≤1:=by omega
 have aC:bit=0∧((bit:Int) != 0)=false∨bit=1∧((bit:Int) != 0)=true∧((bit:Int) != 1)=false:=by
  rcases U with rfl|rfl
  ·left;exact⟨rfl,rfl⟩
  ·right;exact⟨rfl,rfl,rfl⟩
 have aL:=zC U;have a1:¬rate<1:=by omega
 have aZ:¬255<rate:=by omega
 have ah:=zC fun(k:Nat) (u M:Int) (G O:Nat) (W:World) (g1:k≤32) (g2:0≤u) (g3:u≤65535) (g4:0≤M) (g5:M≤192)=>learn11_any k u bit rate M G O W g1 g2 g3 aL.out om aE g4 g5;clear Q hu D q1 X ak ad U;have aY:=zC (zR xs);generalize xs.getD (33*c+S11.at p) 0=u at *;generalize xs.getD (33*c+S11.at p+1) 0=v at *;generalize S11.at p=a at *;generalize S11.from p=f at *
 obtain⟨t,y,aa,N⟩:=zz2 (S11.learn u bit rate (192-f)) (S11.learn v bit rate f);rw[aa,N]at ab;obtain⟨av,aR⟩:=zh2 aa N;clear aa N;obtain⟨n,Y⟩:∃n,n=xs.length:=⟨_,rfl⟩;rw[←Y]at aG J am q2 q3 ae k3⊢;have Hn:=zC Y;clear Y;clear ax;rcases aC with⟨rfl,aT⟩|⟨rfl,aT,aX⟩
 all_goals
  go_enter Tryz.func261,Tryz.ntmps261;go_wp2_with fail;refine mnx w (J.out _ zo) fun B L al z1=> ?_;have a2:w.heap.size+1<B.heap.size:=by have:=L.size;simp at this;omega
  have D:B.cell? ⟨w,0,none⟩=some (.slice (some ⟨g,o,none⟩) n cap):=(L.cell by6).trans (by go_simp)
  have aD:=zC (show Blk B (w.heap.size+1) [.slice none 0 0] 48 from by
   have h0:=(Blk.new (w.alloc (Obj.cells #[.slice (some ⟨g,o,none⟩) n cap] 48)) [.slice none 0 0] 48).step L;simpa using h0)
  go_wp2_with fail;refine(ae.out _ al).mono ?_;rintro e x ⟨V,rfl,G,b,rfl,T,ap,A,H⟩;rw[←Hn.out]at T A⊢;have aW:Below w w x:=zA al H;have z2:B.heap.size≤x.heap.size:=H.size;have a3:=A.lt G rfl;obtain⟨aw,aF⟩:=zh2 (aD.out.step H) A;clear A H D;have aq:=zC fun W=>zsR n b c G 0 W am T ap;simp only[yE]at aq;go_wp2_with fail;refine mnx w (aq.out _) fun w3 E au _=> ?_;have z3:x.heap.size<w3.heap.size:=by have:=E.size;simp at this;omega
  obtain⟨aP,az,aN⟩:=zh3 ((Blk.new x [.slice (some ⟨G,0,none⟩) n b] 48).step E) ((aw.out.alloc (Obj.cells #[.slice (some ⟨G,0,none⟩) n b] 48)).step E) (zrY (aF.out.alloc (Obj.cells #[.slice (some ⟨G,0,none⟩) n b] 48)) E);go_wp2_with fail;refine mnb au (aK.out _) fun d z aU=> ?_;have z4:w3.heap.size≤d.heap.size:=z.size;obtain⟨aB,ay,q⟩:=zh3 (aP.out.step z) (az.out.step z) (zrY aN.out z);obtain⟨c4,c5⟩:=zh2 (q.out.cellAt (33*c+a) om) (q.out.cellAt (33*c+a+1) om);have af:=zC fun(W:World) (h:Below d d W)=>(show W.cell? ⟨G,33*c+a,none⟩=some (.int .i64 u)from(h.cell (p:=⟨G,33*c+a,none⟩) (q.out.lt G rfl).2).trans (c4.out.trans aO.out));have aj:=zC fun(W:World) (h:Below d d W)=>(show W.frozen? ⟨G,33*c+a,none⟩=false from(h.frozen (p:=⟨G,33*c+a,none⟩) (q.out.lt G rfl).2).trans (q.out.frozenAt _));go_wp2_with fail;refine(ah.out a u (192-f) G (33*c) _ om b1.1 b1.2 om om (af.out _ zo) (aj.out _ zo)).mono ?_;rintro e m ⟨rfl,w5,j,s⟩;rw[av.out]at s;have z5:d.heap.size<w5.heap.size:=by have:=j.size;simp at this;omega
  have aS:¬d.heap.size=G:=by omega
  have ac:¬x.heap.size=G:=by omega
  have ai:¬w.heap.size+1=G:=by omega
  have S:=((Blk.new d [a,f] 280).step j).other G (33*c+a) (.int .i64 t) aS;have R:=((aB.out.alloc (Obj.cells #[a,f] 280)).step j).other G (33*c+a) (.int .i64 t) ac;have P:=((ay.out.alloc (Obj.cells #[a,f] 280)).step j).other G (33*c+a) (.int .i64 t) ai;have K:=((zrY (q.out.alloc (Obj.cells #[a,f] 280)) j).stored (33*c+a) (.int .i64 t)).1;have aH:Below w w m:=by rw[s];exact(zA zo j).setCell (show w.heap.size≤G by omega) _
  rw[←s]at S R P K;have z6:w5.heap.size=m.heap.size:=by rw[s];simp
  clear s j;obtain⟨p0,p1⟩:=S.c2;obtain⟨ao,an,I⟩:=zh3 R P K;have c6:m.cell? ⟨G,33*c+(a+1),none⟩=some (.int .i64 v):=by
   have h1:=I.out.cellAt (33*c+(a+1)) om;rw[h1,zgW om];exact aM.out
  have f6:m.frozen? ⟨G,33*c+(a+1),none⟩=false:=I.out.frozenAt _;clear S R P K af aj;have aQ:=zC (ah.out (a+1) v f G (33*c) m om b2.1 b2.2 aJ.1 om c6 f6);clear c6 f6;go_wp2_with fail;refine aQ.out.mono ?_;rintro e wy ⟨rfl,w7,r,F⟩;rw[aR.out]at F;have z7:m.heap.size≤w7.heap.size:=r.size;have Z:=(ao.out.step r).other G (33*c+(a+1)) (.int .i64 y) ac;have l:=(an.out.step r).other G (33*c+(a+1)) (.int .i64 y) ai;have C:=((zrY I.out r).stored (33*c+(a+1)) (.int .i64 y)).1;have aA:Below w w wy:=by rw[F];exact(zA aH r).setCell (show w.heap.size≤G by omega) _
  rw[←F]at Z l C;clear F r ao an I;have q0:=Z.cell 0;have r0:=l.cell 0;have r1:=l.free 0;have r2:=(l.set 0 (.slice (some ⟨G,0,none⟩) n b)).cell 0;have l7:=l.lt;simp only[sC0,lgz]at q0 r0 r2;rw[←zpA,←zpA]at C;have ar:¬G=w.heap.size+1:=by omega
  have ag:=C.kept (yZ wy (w.heap.size+1) 0 (.slice (some ⟨G,0,none⟩) n b)) (.inr (by simp[Value.ownBlock];exact ar));have aI:=zC ag;clear ag C Z l;go_wp2;refine bodyPost_ret (v:=.tuple #[.agg #[.slice (some ⟨G,0,none⟩) n b],.int .i64 0]) (by simp[results,Tryz.results261,go_sem,r2]) rfl ⟨_,rfl,?_,?_⟩
  ·rw[ab.out];have hl:((xs.set (33*c+a) t).set (33*c+a+1) y).length=n:=by rw[yH,yH,Hn.out]
   refine⟨G,b,by rw[hl],by omega,by rw[hl];exact T,ap,?_⟩;exact Rd.of_owns aI.out
  ·exact aA.setCell by1 _
theorem zrT(xs:List Int)(g o cap c:Nat)(p bit rate:Int)(w:World)(a9:xs.length≤cap)(bw:cap≤9223372036854775807)(ai:Rd w (some ⟨g,o,none⟩) (zaE xs))
 (hu:S11.usable xs c p=0) (B:bit=0∨bit=1) (hr:1≤rate) (aC:rate≤255) :
 Calls Tryz.prog 48 #[.agg #[.slice (some ⟨g,o,none⟩) xs.length cap],c,p,bit,rate] w fun e w'=>
  ∃V,e = .returned (.tuple #[V,.int .i64 0])∧MapNew w.heap.size (S11.update xs c p bit rate) V w'∧Below w w w':=by
 have HU:=zC fun W (hb:Below w w W)=>znW xs (some ⟨g,o,none⟩) cap c p W om (ai.step hb);obtain⟨k1,k2,k3,k4,k5⟩:=S11.usable_zero hu;obtain⟨q1,q2,q3,q4⟩:=S11.check_zero k1;rw[hu]at HU;have be:33*(c+1)≤xs.length:=by omega
 have bn:=S11.at_le p;have bd:=S11.from_bounds p;have b1:=S11.getD_bounds q4 (i:=33*c+S11.at p) om;have b2:=S11.getD_bounds q4 (i:=33*c+S11.at p+1) om;have ax:=zC fun W (hb:Below w w W)=>copy11_any xs g o cap W om q3 (ai.step hb);have bi:=zC fun W=>zbK p W;have bp:=S11.x_bounds p;have bo:=S11.at_int p;have bz:(S06.stretch p+3072)%192=S11.from p:=rfl
 have aO:=zpB (xs:=xs) (i:=33*c+S11.at p) om;have av:=zpB (xs:=xs) (i:=33*c+S11.at p+1) om;obtain⟨au,aU,aR⟩:=zh3 (show S11.update xs c p bit rate=(xs.set (33*c+S11.at p) (S11.learn (xs.getD (33*c+S11.at p) 0) bit rate (192-S11.from p))).set (33*c+S11.at p+1) (S11.learn (xs.getD (33*c+S11.at p+1) 0) bit rate (S11.from p))from rfl) aO av;have a2:0≤bit∧bit≤1:=by omega
 have a6:bit=0∧((bit:Int) != 0)=false∨bit=1∧((bit:Int) != 0)=true∧((bit:Int) != 1)=false:=by
  rcases B with rfl|rfl
  ·left;exact⟨rfl,rfl⟩
  ·right;exact⟨rfl,rfl,rfl⟩
 have bq:=zC B;have bv:¬rate<1:=by omega
 have bu:¬255<rate:=by omega
 have a5:=S11.learn_facts b1.1 b1.2 B (show 0≤rate by omega) aC (show 0≤192-S11.from p by omega) om;have a4:=S11.learn_facts b2.1 b2.2 B (show 0≤rate by omega) aC bd.1 om;clear ai hu k1 q1 q4 aO av B;have bt:=zC (zR xs);generalize xs.getD (33*c+S11.at p) 0=u at *;generalize xs.getD (33*c+S11.at p+1) 0=v at *;generalize S06.stretch p=st at *;generalize S11.at p=a at *;generalize S11.from p=f at *
 obtain⟨k,j,ap,ah⟩:=zz2 (S11.learn u bit rate (192-f)) (S11.learn v bit rate f);rw[ap,ah]at au;obtain⟨aq,aV⟩:=zh2 ap ah;clear ap ah;obtain⟨n,hn⟩:∃n,n=xs.length:=⟨_,rfl⟩;rw[←hn]at a9 HU be q2 q3 ax k3⊢;have Hn:=zC hn;clear hn;clear a2;obtain⟨aH,az,aE,aY,a8,bg⟩:=a5;obtain⟨aL,aM,aP,aN,bf,ba⟩:=a4;rw[aq.out]at a8 bg;rw[aV.out]at bf ba;have i1:(33*(c:Int)+(a:Int)).toNat=33*c+a:=by omega
 have i2:(33*(c:Int)+(a:Int)+1).toNat=33*c+a+1:=by omega
 have i3:(0:Int)≤33*(c:Int)+(a:Int):=by omega
 have i4:(0:Int)≤33*(c:Int)+(a:Int)+1:=by omega
 have i5:33*(c:Int)+(a:Int)<n:=by omega
 have i6:33*(c:Int)+(a:Int)+1<n:=by omega
 have i7:33*c+a<n:=by omega
 have i8:33*c+a+1<n:=by omega
 obtain⟨b,y⟩:∃b,b=65535*bit:=⟨_,rfl⟩;rw[←y]at aH az aE aY aL aM aP aN;have bb:0≤b∧b≤65535:=by omega
 have D:IntKind.i64.wrap (192-f)=192-f:=IntWalk.i64_in _ om;have v1:IntKind.i64.wrap (b-u)=b-u:=IntWalk.i64_in _ om;have I:IntKind.i64.wrap ((b-u)*rate)=(b-u)*rate:=IntWalk.i64_in _ om;have v3:IntKind.i64.wrap ((b-u)*rate*(192-f))=(b-u)*rate*(192-f):=IntWalk.i64_in _ om;obtain⟨qu,ak⟩:=zvJ (((b-u)*rate*(192-f)).tdiv 49152);have aS:u+qu=k:=by rw[←aq.out,←ak,y];rfl
 have E:IntKind.i64.wrap (((b-u)*rate*(192-f)).tdiv 49152)=qu:=by rw[ak];exact IntWalk.i64_in _ om
 have U:IntKind.i64.wrap (u+qu)=k:=by rw[aS];exact IntWalk.i64_in _ om
 have H:IntKind.i64.wrap (b-v)=b-v:=IntWalk.i64_in _ om;have N:IntKind.i64.wrap ((b-v)*rate)=(b-v)*rate:=IntWalk.i64_in _ om;have R:IntKind.i64.wrap ((b-v)*rate*f)=(b-v)*rate*f:=IntWalk.i64_in _ om;obtain⟨qv,aj⟩:=zvJ (((b-v)*rate*f).tdiv 49152);have ar:v+qv=j:=by rw[←aV.out,←aj,y];rfl
 have L:IntKind.i64.wrap (((b-v)*rate*f).tdiv 49152)=qv:=by rw[aj];exact IntWalk.i64_in _ om
 have Z:IntKind.i64.wrap (v+qv)=j:=by rw[ar];exact IntWalk.i64_in _ om
 have J:IntKind.i64.wrap (33*(c:Int)+(a:Int)+1)=33*(c:Int)+(a:Int)+1:=IntWalk.i64_in _ om;obtain⟨HV,HX,Hi⟩:=zh3 (zZ D (zZ v1 (zZ I (zZ v3 (zZ E U))))) (zZ H (zZ N (zZ R (zZ L (zZ Z J))))) (zZ i1 i2);clear D v1 I v3 E U H N R L Z J ak aj aS ar aH az aE aY aL aM aP aN bb i1 i2;have ac:=zC y;clear y;rcases a6 with⟨rfl,bj⟩|⟨rfl,bj,br⟩
 all_goals
  go_enter Tryz.func48,Tryz.ntmps48;go_wp2_with fail;refine mnx w (HU.out _ zo) fun Q ae bs z1=> ?_;have bx:w.heap.size+1<Q.heap.size:=by have:=ae.size;simp at this;omega
  have k1:Q.cell? ⟨w,0,none⟩=some (.slice (some ⟨g,o,none⟩) n cap):=(ae.cell by6).trans (by go_simp)
  have a7:=zC (show Blk Q (w.heap.size+1) [.slice none 0 0] 48 from by
   have h0:=(Blk.new (w.alloc (Obj.cells #[.slice (some ⟨g,o,none⟩) n cap] 48)) [.slice none 0 0] 48).step ae;simpa using h0)
  go_wp2_with fail;refine mnx w (bi.out _) fun C an T z2=> ?_;have k2:C.cell? ⟨w,0,none⟩=some (.slice (some ⟨g,o,none⟩) n cap):=(an.cell by6).trans (by go_simp);have bm:Q.heap.size≤C.heap.size:=an.size;have a1:=zC (a7.out.step an);go_wp2_with fail;refine(ax.out _ T).mono ?_;rintro e d ⟨V,rfl,G,h,rfl,aK,bh,X,aa⟩;rw[←Hn.out]at aK X⊢;have bl:Below w w d:=zA T aa;have z3:C.heap.size≤d.heap.size:=aa.size;have bA:=X.lt G rfl;obtain⟨a3,ao⟩:=zh2 (a1.out.step aa) X;clear X aa;have c4:d.cell? ⟨G,33*c+a,none⟩=some (.int .i64 u):=(ao.out.cellAt (33*c+a) om).trans aU.out;have f4:d.frozen? ⟨G,33*c+a,none⟩=false:=ao.out.frozenAt _;have bk:¬d.heap.size=G:=by omega
  go_wp2;obtain⟨D,v1,I,v3,E,U⟩:=HV.out;obtain⟨i1,i2⟩:=Hi.out;first|have x:IntKind.i64.wrap 0=b:=by rw[ac.out];rfl|have x:IntKind.i64.wrap 65535=b:=by rw[ac.out];rfl
  refine zbJ 23 2 _ _ (Keeps (d.alloc (Obj.cells #[.slice (some ⟨G,0,none⟩) n h] 48)) [(⟨d,0,none⟩,.slice (some ⟨G,0,none⟩) n h),(⟨G,33*c+a,none⟩,u)]) zk (zU 23 _).symm rfl rfl zk (Keeps.start (by simp only[Cells];refine⟨?_,?_,zT⟩<;>go_simp)) (fun Y F hY A=> ?_);simp only[ltc,ltz,ldc,ldz]
  repeat
   apply yN (by rw[hY];rfl)
   ·intro C ⟨T,ad⟩;simp only[Cells]at ad;go_simp;with_reducible rfl
   simp only[zvF]
  refine A.out _ (fun K t z aT=> ?_);have r:=aT.1;clear A hY aT D v1 I v3 E U x c4 f4;have z5:d.heap.size<t.heap.size:=by have:=r.size;simp at this;omega
  have aW:¬d.heap.size=G:=by omega
  have aF:¬w.heap.size+1=G:=by omega
  have M:=zrY (ao.out.alloc (Obj.cells #[.slice (some ⟨G,0,none⟩) n h] 48)) r;have f5:t.frozen? ⟨G,33*c+a,none⟩=false:=M.frozenAt _;have c5:t.cell? ⟨G,33*c+a,none⟩=some (.int .i64 u):=(M.cellAt (33*c+a) om).trans aU.out;have aD:=((Blk.new d [.slice (some ⟨G,0,none⟩) n h] 48).step r).other G (33*c+a) (.int .i64 k) aW;have aw:=((a3.out.alloc (Obj.cells #[.slice (some ⟨G,0,none⟩) n h] 48)).step r).other G (33*c+a) (.int .i64 k) aF;have aX:=(M.stored (33*c+a) (.int .i64 k)).1;have O:Below w w (t.setCell ⟨G,33*c+a,none⟩ (.int .i64 k)):=(zA zo r).setCell (show w.heap.size≤G by omega) _;obtain⟨al,aG,ag,aZ⟩:=zh4 aD aw aX O;clear aD aw aX M r O;go_wp2_with fail;refine mok z ?_;obtain⟨q,af⟩:∃q,q=t.setCell ⟨G,33*c+a,none⟩ (.int .i64 k):=⟨_,rfl⟩;rw[←af]at al aG ag aZ⊢;have z6:q.heap.size=t.heap.size:=by rw[af];simp
  clear af c5 f5 z;have p0:=al.out.cell 0;simp only[lgz]at p0;have c6:q.cell? ⟨G,33*c+a+1,none⟩=some (.int .i64 v):=by
   have h1:=ag.out.cellAt (33*c+a+1) om;rw[h1,zgW om];exact aR.out
  have O:=aZ.out;go_wp2;obtain⟨H,N,R,L,Z,J⟩:=HX.out;first|have x:IntKind.i64.wrap 0=b:=by rw[ac.out];rfl|have x:IntKind.i64.wrap 65535=b:=by rw[ac.out];rfl
  refine zbJ 25 2 _ _ (Keeps q [(⟨d,0,none⟩,.slice (some ⟨G,0,none⟩) n h),(⟨G,33*c+a+1,none⟩,v)]) zk (zU 25 _).symm rfl rfl zk (Keeps.start (by simp only[Cells];refine⟨?_,?_,zT⟩<;>go_simp)) (fun Y F hY A=> ?_);simp only[ltc,ltz,ldc,ldz]
  repeat
   apply yN (by rw[hY];rfl)
   ·intro C ⟨T,ad⟩;simp only[Cells]at ad;go_simp;with_reducible rfl
   simp only[zvF]
  refine A.out _ (fun K m z ay=> ?_);have s:=ay.1;clear A hY ay H N R L Z J x c6 p0;have z7:q.heap.size≤m.heap.size:=s.size;have S:=zrY ag.out s;have f7:m.frozen? ⟨G,33*c+a+1,none⟩=false:=S.frozenAt _;have c7:m.cell? ⟨G,33*c+a+1,none⟩=some (.int .i64 v):=by
   have h1:=S.cellAt (33*c+a+1) om;rw[h1,zgW om];exact aR.out
  have aQ:=(al.out.step s).other G (33*c+a+1) (.int .i64 j) aW;have aB:=(aG.out.step s).other G (33*c+a+1) (.int .i64 j) aF;have l:=(S.stored (33*c+a+1) (.int .i64 j)).1;have ab:Below w w (m.setCell ⟨G,33*c+a+1,none⟩ (.int .i64 j)):=(zA O s).setCell (show w.heap.size≤G by omega) _;obtain⟨aA,P,aI,aJ⟩:=zh4 aQ aB l ab;clear aQ aB l S s ab;go_wp2_with fail;refine mok z ?_;obtain⟨w8,am⟩:∃w8,w8=m.setCell ⟨G,33*c+a+1,none⟩ (.int .i64 j):=⟨_,rfl⟩;rw[←am]at aA P aI aJ⊢;have z8:w8.heap.size=m.heap.size:=by rw[am];simp
  clear am c7 f7 z;have q0:=aA.out.cell 0;have r0:=P.out.cell 0;have r1:=P.out.free 0;have r2:=(P.out.set 0 (.slice (some ⟨G,0,none⟩) n h)).cell 0;simp only[sC0,lgz]at q0 r0 r2;have l:=aI.out;rw[←zpA,←zpA]at l;have a0:¬G=w.heap.size+1:=by omega
  have bc:=zC (l.kept (yZ w8 (w.heap.size+1) 0 (.slice (some ⟨G,0,none⟩) n h)) (.inr (by simp[Value.ownBlock];exact a0)));have ab:=aJ.out;clear l;go_wp2;refine bodyPost_ret (v:=.tuple #[.agg #[.slice (some ⟨G,0,none⟩) n h],.int .i64 0]) (by simp[results,Tryz.results48,go_sem,r2]) rfl ⟨_,rfl,?_,?_⟩
  ·rw[au.out];have hl:((xs.set (33*c+a) k).set (33*c+a+1) j).length=n:=by rw[yH,yH,Hn.out]
   refine⟨G,h,by rw[hl],by omega,by rw[hl];exact aK,bh,?_⟩;exact Rd.of_owns bc.out
  ·exact ab.setCell by1 _
