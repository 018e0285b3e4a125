/- A part of the proof of L14l. No condition. -/
import Derived.Lib.MinMax
import Derived.Test.YthhgkafloejjiaaGreatZL14laa
import Derived.Test.YthhgkafloejjiaaGreatZL14laf
import Derived.Test.YthhgkafloejjiaaGreatZL14lan
import Derived.Test.YthhgkafloejjiaaGreatZL14lav
set_option linter.all false
set_option maxRecDepth 100000
set_option maxHeartbeats 2000000
namespace Go.Proofs.YthhgkafloejjiaaGreat
open Go.RowKit
def zV(c:S14.C):List Value:=[.int .i64 c.kind,.int .i64 c.bits,.int .i64 c.limit,.int .i64 c.rate,.int .i64 c.first,.int .i64 c.second]
def CV(c:S14.C):Value:=.agg (zV c).toArray
structure Six(w:World)(b:Nat)(c0 c1 c2 c3 c4 c5:Value):Prop where
 e0:w.cell? ⟨b,0,none⟩=some c0
 e1:w.cell? ⟨b,1,none⟩=some c1
 e2:w.cell? ⟨b,2,none⟩=some c2
 e3:w.cell? ⟨b,3,none⟩=some c3
 e4:w.cell? ⟨b,4,none⟩=some c4
 e5:w.cell? ⟨b,5,none⟩=some c5
theorem Blk.six{w:World}{b:Nat}{t:TypeId}{g e c a d f:Value}(h:Blk w b [g,e,c,a,d,f] t):Six w b g e c a d f:=
 ⟨h.cell 0,h.cell 1,h.cell 2,h.cell 3,h.cell 4,h.cell 5⟩
theorem zaR(n a c:Int)(w:World):Calls Tryz.prog 15 #[n,a,c] w fun e d=>e = .returned (.bool (S14.has n a c))∧Below w w d:=by
 unfold S14.has;by_cases b:a≤n
 ·have f:decide (a≤n)=true:=zO b;go_enter Tryz.func15,Tryz.ntmps15;go_wp2;go_returns;exact⟨zaA (by simp[b]),by go_grown⟩
 ·have f:decide (a≤n)=false:=zL b;go_enter Tryz.func15,Tryz.ntmps15;go_wp2;go_returns;exact⟨zaA (by simp[b]),by go_grown⟩
theorem zbB(n a c:Int)(w:World):Calls Tryz.prog 23 #[n,a,c] w fun e d=>e = .returned (.bool (S14.has n a c))∧Below w w d:=by
 unfold S14.has;by_cases b:a≤n
 ·have f:decide (a≤n)=true:=zO b;go_enter Tryz.func23,Tryz.ntmps23;go_wp2;go_returns;exact⟨zaA (by simp[b]),by go_grown⟩
 ·have f:decide (a≤n)=false:=zL b;go_enter Tryz.func23,Tryz.ntmps23;go_wp2;go_returns;exact⟨zaA (by simp[b]),by go_grown⟩
theorem zgE(w:World)(b:List Value)(t:TypeId):∃a,w.alloc (Obj.cells b.toArray t)=a∧Blk a w b t∧Below w w a:=⟨_,rfl,Blk.new w b t,(zJ _ _).alloc (zF _) _⟩
theorem zfE(c:S14.C)(w:World):Calls Tryz.prog 158 #[CV c] w fun e l=>e = .returned (.bool (S14.ctx c))∧Below w w l:=by
 have r:=zC fun n p q W=>zaR n p q W;obtain⟨k,j,o,g,first,i⟩:=c;obtain⟨R,a⟩:=zvJ (S14.ctx ⟨k,j,o,g,first,i⟩);rw[a];unfold CV zV;by_cases d:g=0
 case neg=>
  have b:R=false:=by rw[←a];simp[S14.okConst,S14.okDirect,S14.okMatch,S14.okAverage,S14.okMix,S14.okRefine,S14.ctx,S14.only,d]
  subst b;clear a;go_enter Tryz.func158,Tryz.ntmps158;exact mf4
 subst d;by_cases h:first=0
 case neg=>
  have b:R=false:=by rw[←a];simp[S14.okConst,S14.okDirect,S14.okMatch,S14.okAverage,S14.okMix,S14.okRefine,S14.ctx,S14.only,h]
  subst b;clear a;go_enter Tryz.func158,Tryz.ntmps158;exact mf4
 subst h;by_cases f:i=0
 case neg=>
  have b:R=false:=by rw[←a];simp[S14.okConst,S14.okDirect,S14.okMatch,S14.okAverage,S14.okMix,S14.okRefine,S14.ctx,S14.only,f]
  subst b;clear a;go_enter Tryz.func158,Tryz.ntmps158;exact mf4
 subst f;have m:R=decide (j≤16):=by rw[←a];simp[S14.ctx,S14.only]
 subst m;clear a;go_enter Tryz.func158,Tryz.ntmps158;exact mf4
theorem zuU(c:S14.C)(k:Int)(w:World):Calls Tryz.prog 139 #[CV c,k] w fun e D=>e = .returned (.bool (S14.okConst c))∧Below w w D:=by
 have F:=zC fun n G H W=>zaR n G H W;obtain⟨j,y,f,p,first,t⟩:=c;obtain⟨R,a⟩:=zvJ (S14.okConst ⟨j,y,f,p,first,t⟩);rw[a];unfold CV zV;by_cases x:y=0
 case neg=>
  have b:R=false:=by rw[←a];simp[S14.okConst,S14.okDirect,S14.okMatch,S14.okAverage,S14.okMix,S14.okRefine,S14.ctx,S14.only,x]
  subst b;clear a;go_enter Tryz.func139,Tryz.ntmps139;exact mf4
 subst x;by_cases g:p=0
 case neg=>
  have b:R=false:=by rw[←a];simp[S14.okConst,S14.okDirect,S14.okMatch,S14.okAverage,S14.okMix,S14.okRefine,S14.ctx,S14.only,g]
  subst b;clear a;go_enter Tryz.func139,Tryz.ntmps139;exact mf4
 subst g;by_cases s:first=0
 case neg=>
  have b:R=false:=by rw[←a];simp[S14.okConst,S14.okDirect,S14.okMatch,S14.okAverage,S14.okMix,S14.okRefine,S14.ctx,S14.only,s]
  subst b;clear a;go_enter Tryz.func139,Tryz.ntmps139;exact mf4
 subst s;by_cases l:t=0
 case neg=>
  have b:R=false:=by rw[←a];simp[S14.okConst,S14.okDirect,S14.okMatch,S14.okAverage,S14.okMix,S14.okRefine,S14.ctx,S14.only,l]
  subst b;clear a;go_enter Tryz.func139,Tryz.ntmps139;exact mf4
 subst l;obtain⟨z,o⟩:=zvJ (S14.has f 1 4095);have d:R=(z):=by rw[←a,←o];simp[S14.okConst,S14.okDirect,S14.okMatch,S14.okAverage,S14.okMix,S14.okRefine,S14.ctx,S14.only,Bool.and_assoc]
 clear a;obtain⟨J,E,A,C⟩:=zgE w [j,.int .i64 0,f,.int .i64 0,.int .i64 0,.int .i64 0] 87;obtain⟨i,u,q,h,m,v⟩:=A.six;go_enter Tryz.func139,Tryz.ntmps139;go_wp2_with (rw[E]);refine(F.out _ _ _ _).mono ?_;rw[o];rintro e I ⟨rfl,B⟩;have r:=zA C B;replace A:=A.step B;clear i u q h m v;obtain⟨i,u,q,h,m,v⟩:=A.six;cases z with
 | false=>
   obtain rfl:R=false:=by rw[d];try simp
   clear d;exact mf1 r
 | true=>
   obtain rfl:R=true:=by rw[d];try rfl
   clear d;exact mf1 r
theorem direct14_ok(c:S14.C)(k:Int)(w:World):Calls Tryz.prog 152 #[CV c,k] w fun e F=>e = .returned (.bool (S14.okDirect c))∧Below w w F:=by
 have I:=zC fun n J L W=>zaR n J L W;have y:=zC fun W=>zfE c W;obtain⟨m,b,i,o,first,q⟩:=c;obtain⟨R,r⟩:=zvJ (S14.okDirect ⟨m,b,i,o,first,q⟩);rw[r];unfold CV zV at y⊢;obtain⟨z,B,x,t,K,v⟩:=zz3 (S14.ctx ⟨m,b,i,o,first,q⟩) (decide (0≤b)) (S14.has i 1 1023);have a:R=(z&&B&&x):=by rw[←r,←t,←K,←v];simp[S14.okConst,S14.okDirect,S14.okMatch,S14.okAverage,S14.okMix,S14.okRefine,S14.ctx,S14.only,S14.has];by_cases G:b≤16<;>by_cases D:0≤b<;>simp[G,D]
 clear r;obtain⟨O,H,A,E⟩:=zgE w [m,b,i,o,first,q] 88;obtain⟨f,j,h,d,g,l⟩:=A.six;go_enter Tryz.func152,Tryz.ntmps152;go_wp2_with (rw[H]);refine(y.out _).mono ?_;rw[t];rintro e M ⟨rfl,C⟩;have p:=zA E C;replace A:=A.step C;clear f j h d g l;obtain⟨f,j,h,d,g,l⟩:=A.six;cases z with
 | false=>
   obtain rfl:R=false:=by rw[a];try simp
   clear a;exact mf1 p
 | true=>
   cases B with
   | false=>
     obtain rfl:R=false:=by rw[a];try simp
     clear a;exact mf1 p
   | true=>
     go_wp2_with fail;refine(I.out _ _ _ _).mono ?_;rw[v];rintro e N ⟨rfl,s⟩;have u:=zA p s;replace A:=A.step s;clear f j h d g l;obtain⟨f,j,h,d,g,l⟩:=A.six;cases x with
     | false=>
       obtain rfl:R=false:=by rw[a];try simp
       clear a;exact mf1 u
     | true=>
       obtain rfl:R=true:=by rw[a];try rfl
       clear a;exact mf1 u
theorem history14_ok(c:S14.C)(k:Int)(w:World):Calls Tryz.prog 181 #[CV c,k] w fun e F=>e = .returned (.bool (S14.okDirect c))∧Below w w F:=by
 have I:=zC fun n J L W=>zaR n J L W;have y:=zC fun W=>zfE c W;obtain⟨m,b,i,o,first,q⟩:=c;obtain⟨R,r⟩:=zvJ (S14.okDirect ⟨m,b,i,o,first,q⟩);rw[r];unfold CV zV at y⊢;obtain⟨z,B,x,t,K,v⟩:=zz3 (S14.ctx ⟨m,b,i,o,first,q⟩) (decide (0≤b)) (S14.has i 1 1023);have a:R=(z&&B&&x):=by rw[←r,←t,←K,←v];simp[S14.okConst,S14.okDirect,S14.okMatch,S14.okAverage,S14.okMix,S14.okRefine,S14.ctx,S14.only,S14.has];by_cases G:b≤16<;>by_cases D:0≤b<;>simp[G,D]
 clear r;obtain⟨O,H,A,E⟩:=zgE w [m,b,i,o,first,q] 89;obtain⟨f,j,h,d,g,l⟩:=A.six;go_enter Tryz.func181,Tryz.ntmps181;go_wp2_with (rw[H]);refine(y.out _).mono ?_;rw[t];rintro e M ⟨rfl,C⟩;have p:=zA E C;replace A:=A.step C;clear f j h d g l;obtain⟨f,j,h,d,g,l⟩:=A.six;cases z with
 | false=>
   obtain rfl:R=false:=by rw[a];try simp
   clear a;exact mf1 p
 | true=>
   cases B with
   | false=>
     obtain rfl:R=false:=by rw[a];try simp
     clear a;exact mf1 p
   | true=>
     go_wp2_with fail;refine(I.out _ _ _ _).mono ?_;rw[v];rintro e N ⟨rfl,s⟩;have u:=zA p s;replace A:=A.step s;clear f j h d g l;obtain⟨f,j,h,d,g,l⟩:=A.six;cases x with
     | false=>
       obtain rfl:R=false:=by rw[a];try simp
       clear a;exact mf1 u
     | true=>
       obtain rfl:R=true:=by rw[a];try rfl
       clear a;exact mf1 u
theorem matched14_ok(c:S14.C)(k:Int)(w:World):Calls Tryz.prog 197 #[CV c,k] w fun e F=>e = .returned (.bool (S14.okMatch c))∧Below w w F:=by
 have I:=zC fun n J L W=>zaR n J L W;have y:=zC fun W=>zfE c W;obtain⟨m,b,i,o,first,q⟩:=c;obtain⟨R,r⟩:=zvJ (S14.okMatch ⟨m,b,i,o,first,q⟩);rw[r];unfold CV zV at y⊢;obtain⟨z,B,x,t,K,v⟩:=zz3 (S14.ctx ⟨m,b,i,o,first,q⟩) (decide (1≤b)) (S14.has i 1 32);have a:R=(z&&B&&x):=by rw[←r,←t,←K,←v];simp[S14.okConst,S14.okDirect,S14.okMatch,S14.okAverage,S14.okMix,S14.okRefine,S14.ctx,S14.only,S14.has];by_cases G:b≤16<;>by_cases D:1≤b<;>simp[G,D]
 clear r;obtain⟨O,H,A,E⟩:=zgE w [m,b,i,o,first,q] 90;obtain⟨f,j,h,d,g,l⟩:=A.six;go_enter Tryz.func197,Tryz.ntmps197;go_wp2_with (rw[H]);refine(y.out _).mono ?_;rw[t];rintro e M ⟨rfl,C⟩;have p:=zA E C;replace A:=A.step C;clear f j h d g l;obtain⟨f,j,h,d,g,l⟩:=A.six;cases z with
 | false=>
   obtain rfl:R=false:=by rw[a];try simp
   clear a;exact mf1 p
 | true=>
   cases B with
   | false=>
     obtain rfl:R=false:=by rw[a];try simp
     clear a;exact mf1 p
   | true=>
     go_wp2_with fail;refine(I.out _ _ _ _).mono ?_;rw[v];rintro e N ⟨rfl,s⟩;have u:=zA p s;replace A:=A.step s;clear f j h d g l;obtain⟨f,j,h,d,g,l⟩:=A.six;cases x with
     | false=>
       obtain rfl:R=false:=by rw[a];try simp
       clear a;exact mf1 u
     | true=>
       obtain rfl:R=true:=by rw[a];try rfl
       clear a;exact mf1 u
theorem average14_ok(c:S14.C)(k:Int)(w:World)(T:0≤k∧k≤1000):Calls Tryz.prog 226 #[CV c,k] w fun e K=>e = .returned (.bool (S14.okAverage c k))∧Below w w K:=by
 have o:=zC fun n M N W=>zaR n M N W;obtain⟨s,C,p,u,first,m⟩:=c;obtain⟨R,b⟩:=zvJ (S14.okAverage ⟨s,C,p,u,first,m⟩ k);rw[b];unfold CV zV;by_cases B:C=0
 case neg=>
  have l:R=false:=by rw[←b];simp[S14.okConst,S14.okDirect,S14.okMatch,S14.okAverage,S14.okMix,S14.okRefine,S14.ctx,S14.only,B]
  subst l;clear b;go_enter Tryz.func226,Tryz.ntmps226;exact mf4
 subst B;by_cases q:u=0
 case neg=>
  have l:R=false:=by rw[←b];simp[S14.okConst,S14.okDirect,S14.okMatch,S14.okAverage,S14.okMix,S14.okRefine,S14.ctx,S14.only,q]
  subst l;clear b;go_enter Tryz.func226,Tryz.ntmps226;exact mf4
 subst q;obtain⟨E,F,D,t,G,z⟩:=zz3 (S14.has p 0 256) (S14.has first 0 (k-1)) (S14.has m 0 (k-1));have a:R=(E&&F&&D):=by rw[←b,←t,←G,←z];simp[S14.okConst,S14.okDirect,S14.okMatch,S14.okAverage,S14.okMix,S14.okRefine,S14.ctx,S14.only,Bool.and_assoc]
 clear b;obtain⟨S,L,A,J⟩:=zgE w [s,.int .i64 0,p,.int .i64 0,first,m] 91;obtain⟨f,i,h,d,g,j⟩:=A.six;go_enter Tryz.func226,Tryz.ntmps226;go_wp2_with (rw[L]);refine(o.out _ _ _ _).mono ?_;rw[t];rintro e O ⟨rfl,H⟩;have v:=zA J H;replace A:=A.step H;clear f i h d g j;obtain⟨f,i,h,d,g,j⟩:=A.six;cases E with
 | false=>
   obtain rfl:R=false:=by rw[a];try simp
   clear a;exact mf1 v
 | true=>
   go_wp2_with fail;refine(o.out _ _ _ _).mono ?_;rw[G];rintro e P ⟨rfl,y⟩;have I:=zA v y;replace A:=A.step y;clear f i h d g j;obtain⟨f,i,h,d,g,j⟩:=A.six;cases F with
   | false=>
     obtain rfl:R=false:=by rw[a];try simp
     clear a;exact mf1 I
   | true=>
     go_wp2_with fail;refine(o.out _ _ _ _).mono ?_;rw[z];rintro e Q ⟨rfl,r⟩;have x:=zA I r;replace A:=A.step r;clear f i h d g j;obtain⟨f,i,h,d,g,j⟩:=A.six;cases D with
     | false=>
       obtain rfl:R=false:=by rw[a];try simp
       clear a;exact mf1 x
     | true=>
       obtain rfl:R=true:=by rw[a];try rfl
       clear a;exact mf1 x
theorem mixed14_ok(c:S14.C)(k:Int)(w:World)(Y:0≤k∧k≤1000):Calls Tryz.prog 233 #[CV c,k] w fun e N=>e = .returned (.bool (S14.okMix c k))∧Below w w N:=by
 have l:=zC fun n P Q W=>zaR n P Q W;obtain⟨s,p,z,m,first,o⟩:=c;obtain⟨R,j⟩:=zvJ (S14.okMix ⟨s,p,z,m,first,o⟩ k);rw[j];unfold CV zV;by_cases y:z=0
 case neg=>
  have M:R=false:=by rw[←j];simp[S14.okConst,S14.okDirect,S14.okMatch,S14.okAverage,S14.okMix,S14.okRefine,S14.ctx,S14.only,y]
  subst M;clear j;go_enter Tryz.func233,Tryz.ntmps233;exact mf4
 subst y;obtain⟨E,G,D,u,t,I,C,H⟩:=zz4 (S14.has p 0 16) (S14.has m 1 255) (S14.has first 0 (k-1)) (S14.has o first (k-1));have a:R=(E&&G&&D&&u):=by rw[←j,←t,←I,←C,←H];simp[S14.okConst,S14.okDirect,S14.okMatch,S14.okAverage,S14.okMix,S14.okRefine,S14.ctx,S14.only,Bool.and_assoc]
 clear j;obtain⟨X,O,A,L⟩:=zgE w [s,p,.int .i64 0,m,first,o] 92;obtain⟨d,h,g,b,f,i⟩:=A.six;go_enter Tryz.func233,Tryz.ntmps233;go_wp2_with (rw[O]);refine(l.out _ _ _ _).mono ?_;rw[t];rintro e S ⟨rfl,J⟩;have v:=zA L J;replace A:=A.step J;clear d h g b f i;obtain⟨d,h,g,b,f,i⟩:=A.six;cases E with
 | false=>
   obtain rfl:R=false:=by rw[a];try simp
   clear a;exact mf1 v
 | true=>
   go_wp2_with fail;refine(l.out _ _ _ _).mono ?_;rw[I];rintro e T ⟨rfl,B⟩;have K:=zA v B;replace A:=A.step B;clear d h g b f i;obtain⟨d,h,g,b,f,i⟩:=A.six;cases G with
   | false=>
     obtain rfl:R=false:=by rw[a];try simp
     clear a;exact mf1 K
   | true=>
     go_wp2_with fail;refine(l.out _ _ _ _).mono ?_;rw[C];rintro e V ⟨rfl,r⟩;have x:=zA K r;replace A:=A.step r;clear d h g b f i;obtain⟨d,h,g,b,f,i⟩:=A.six;cases D with
     | false=>
       obtain rfl:R=false:=by rw[a];try simp
       clear a;exact mf1 x
     | true=>
       go_wp2_with fail;refine(l.out _ _ _ _).mono ?_;rw[H];rintro e U ⟨rfl,F⟩;have q:=zA x F;replace A:=A.step F;clear d h g b f i;obtain⟨d,h,g,b,f,i⟩:=A.six;cases u with
       | false=>
         obtain rfl:R=false:=by rw[a];try simp
         clear a;exact mf1 q
       | true=>
         obtain rfl:R=true:=by rw[a];try rfl
         clear a;exact mf1 q
theorem refined14_ok(c:S14.C)(k:Int)(w:World)(T:0≤k∧k≤1000):Calls Tryz.prog 254 #[CV c,k] w fun e K=>e = .returned (.bool (S14.okRefine c k))∧Below w w K:=by
 have o:=zC fun n M N W=>zaR n M N W;obtain⟨r,p,z,m,first,y⟩:=c;obtain⟨R,b⟩:=zvJ (S14.okRefine ⟨r,p,z,m,first,y⟩ k);rw[b];unfold CV zV;by_cases x:z=0
 case neg=>
  have l:R=false:=by rw[←b];simp[S14.okConst,S14.okDirect,S14.okMatch,S14.okAverage,S14.okMix,S14.okRefine,S14.ctx,S14.only,x]
  subst l;clear b;go_enter Tryz.func254,Tryz.ntmps254;exact mf4
 subst x;by_cases s:y=0
 case neg=>
  have l:R=false:=by rw[←b];simp[S14.okConst,S14.okDirect,S14.okMatch,S14.okAverage,S14.okMix,S14.okRefine,S14.ctx,S14.only,s]
  subst l;clear b;go_enter Tryz.func254,Tryz.ntmps254;exact mf4
 subst s;obtain⟨E,F,D,t,G,C⟩:=zz3 (S14.has p 0 16) (S14.has m 1 255) (S14.has first 0 (k-1));have a:R=(E&&F&&D):=by rw[←b,←t,←G,←C];simp[S14.okConst,S14.okDirect,S14.okMatch,S14.okAverage,S14.okMix,S14.okRefine,S14.ctx,S14.only,Bool.and_assoc]
 clear b;obtain⟨S,L,A,J⟩:=zgE w [r,p,.int .i64 0,m,first,.int .i64 0] 93;obtain⟨f,i,h,d,g,j⟩:=A.six;go_enter Tryz.func254,Tryz.ntmps254;go_wp2_with (rw[L]);refine(o.out _ _ _ _).mono ?_;rw[t];rintro e O ⟨rfl,H⟩;have u:=zA J H;replace A:=A.step H;clear f i h d g j;obtain⟨f,i,h,d,g,j⟩:=A.six;cases E with
 | false=>
   obtain rfl:R=false:=by rw[a];try simp
   clear a;exact mf1 u
 | true=>
   go_wp2_with fail;refine(o.out _ _ _ _).mono ?_;rw[G];rintro e P ⟨rfl,B⟩;have I:=zA u B;replace A:=A.step B;clear f i h d g j;obtain⟨f,i,h,d,g,j⟩:=A.six;cases F with
   | false=>
     obtain rfl:R=false:=by rw[a];try simp
     clear a;exact mf1 I
   | true=>
     go_wp2_with fail;refine(o.out _ _ _ _).mono ?_;rw[C];rintro e Q ⟨rfl,q⟩;have v:=zA I q;replace A:=A.step q;clear f i h d g j;obtain⟨f,i,h,d,g,j⟩:=A.six;cases D with
     | false=>
       obtain rfl:R=false:=by rw[a];try simp
       clear a;exact mf1 v
     | true=>
       obtain rfl:R=true:=by rw[a];try rfl
       clear a;exact mf1 v
theorem rcorrect14_0(g c rate first d k:Int)(w:World)(H:0≤k∧k≤1000):Calls Tryz.prog 67 #[.agg #[.int .i64 0,g,c,rate,first,d],k] w fun e z=>e = .returned (.bool (S14.okConst ⟨0,g,c,rate,first,d⟩))∧Below w w z:=by
 have C:=zC fun n D E W=>zbB n D E W;obtain⟨R,a⟩:=zvJ (S14.okConst ⟨0,g,c,rate,first,d⟩);rw[a];by_cases u:g=0
 case neg=>
  have b:R=false:=by rw[←a];simp[S14.okConst,S14.ctx,S14.only,u]
  subst b;clear a;go_enter Tryz.func67,Tryz.ntmps67;exact mf4
 subst u;by_cases h:rate=0
 case neg=>
  have b:R=false:=by rw[←a];simp[S14.okConst,S14.ctx,S14.only,h]
  subst b;clear a;go_enter Tryz.func67,Tryz.ntmps67;exact mf4
 subst h;by_cases r:first=0
 case neg=>
  have b:R=false:=by rw[←a];simp[S14.okConst,S14.ctx,S14.only,r]
  subst b;clear a;go_enter Tryz.func67,Tryz.ntmps67;exact mf4
 subst r;by_cases l:d=0
 case neg=>
  have b:R=false:=by rw[←a];simp[S14.okConst,S14.ctx,S14.only,l]
  subst b;clear a;go_enter Tryz.func67,Tryz.ntmps67;exact mf4
 subst l;obtain⟨v,o⟩:=zvJ (S14.has c 1 4095);have f:R=(v):=by rw[←a,←o];simp[S14.okConst,S14.ctx,S14.only,Bool.and_assoc]
 clear a;obtain⟨G,B,A,y⟩:=zgE w [.int .i64 0,.int .i64 0,c,.int .i64 0,.int .i64 0,.int .i64 0] 56;obtain⟨j,s,p,i,m,t⟩:=A.six;go_enter Tryz.func67,Tryz.ntmps67;go_wp2_with (rw[B]);refine(C.out _ _ _ _).mono ?_;rw[o];rintro e F ⟨rfl,x⟩;have q:=zA y x;replace A:=A.step x;clear j s p i m t;obtain⟨j,s,p,i,m,t⟩:=A.six;cases v with
 | false=>
   obtain rfl:R=false:=by rw[f];try simp
   clear f;exact mf1 q
 | true=>
   obtain rfl:R=true:=by rw[f];try rfl
   clear f;exact mf1 q
theorem rcorrect14_1(f d rate first l k:Int)(w:World)(L:0≤k∧k≤1000):Calls Tryz.prog 67 #[.agg #[.int .i64 1,f,d,rate,first,l],k] w fun e E=>e = .returned (.bool (S14.okDirect ⟨1,f,d,rate,first,l⟩))∧Below w w E:=by
 have u:=zC fun n G H W=>zbB n G H W;obtain⟨R,a⟩:=zvJ (S14.okDirect ⟨1,f,d,rate,first,l⟩);rw[a];by_cases p:rate=0
 case neg=>
  have c:R=false:=by rw[←a];simp[S14.okDirect,S14.ctx,S14.only,p]
  subst c;clear a;go_enter Tryz.func67,Tryz.ntmps67;exact mf4
 subst p;by_cases t:first=0
 case neg=>
  have c:R=false:=by rw[←a];simp[S14.okDirect,S14.ctx,S14.only,t]
  subst c;clear a;go_enter Tryz.func67,Tryz.ntmps67;exact mf4
 subst t;by_cases q:l=0
 case neg=>
  have c:R=false:=by rw[←a];simp[S14.okDirect,S14.ctx,S14.only,q]
  subst c;clear a;go_enter Tryz.func67,Tryz.ntmps67;exact mf4
 subst q;obtain⟨x,y,r,z⟩:=zz2 (S14.has f 0 16) (S14.has d 1 1023);have b:R=(x&&y):=by rw[←a,←r,←z];simp[S14.okDirect,S14.ctx,S14.only,Bool.and_assoc]
 clear a;obtain⟨K,F,A,D⟩:=zgE w [.int .i64 1,f,d,.int .i64 0,.int .i64 0,.int .i64 0] 56;obtain⟨h,m,j,g,i,o⟩:=A.six;go_enter Tryz.func67,Tryz.ntmps67;go_wp2_with (rw[F]);refine(u.out _ _ _ _).mono ?_;rw[r];rintro e I ⟨rfl,B⟩;have s:=zA D B;replace A:=A.step B;clear h m j g i o;obtain⟨h,m,j,g,i,o⟩:=A.six;cases x with
 | false=>
   obtain rfl:R=false:=by rw[b];try simp
   clear b;exact mf1 s
 | true=>
   go_wp2_with fail;refine(u.out _ _ _ _).mono ?_;rw[z];rintro e J ⟨rfl,v⟩;have C:=zA s v;replace A:=A.step v;clear h m j g i o;obtain⟨h,m,j,g,i,o⟩:=A.six;cases y with
   | false=>
     obtain rfl:R=false:=by rw[b];try simp
     clear b;exact mf1 C
   | true=>
     obtain rfl:R=true:=by rw[b];try rfl
     clear b;exact mf1 C
theorem rcorrect14_2(f d rate first l k:Int)(w:World)(L:0≤k∧k≤1000):Calls Tryz.prog 67 #[.agg #[.int .i64 2,f,d,rate,first,l],k] w fun e E=>e = .returned (.bool (S14.okDirect ⟨2,f,d,rate,first,l⟩))∧Below w w E:=by
 have u:=zC fun n G H W=>zbB n G H W;obtain⟨R,a⟩:=zvJ (S14.okDirect ⟨2,f,d,rate,first,l⟩);rw[a];by_cases p:rate=0
 case neg=>
  have c:R=false:=by rw[←a];simp[S14.okDirect,S14.ctx,S14.only,p]
  subst c;clear a;go_enter Tryz.func67,Tryz.ntmps67;exact mf4
 subst p;by_cases t:first=0
 case neg=>
  have c:R=false:=by rw[←a];simp[S14.okDirect,S14.ctx,S14.only,t]
  subst c;clear a;go_enter Tryz.func67,Tryz.ntmps67;exact mf4
 subst t;by_cases q:l=0
 case neg=>
  have c:R=false:=by rw[←a];simp[S14.okDirect,S14.ctx,S14.only,q]
  subst c;clear a;go_enter Tryz.func67,Tryz.ntmps67;exact mf4
 subst q;obtain⟨x,y,r,z⟩:=zz2 (S14.has f 0 16) (S14.has d 1 1023);have b:R=(x&&y):=by rw[←a,←r,←z];simp[S14.okDirect,S14.ctx,S14.only,Bool.and_assoc]
 clear a;obtain⟨K,F,A,D⟩:=zgE w [.int .i64 2,f,d,.int .i64 0,.int .i64 0,.int .i64 0] 56;obtain⟨h,m,j,g,i,o⟩:=A.six;go_enter Tryz.func67,Tryz.ntmps67;go_wp2_with (rw[F]);refine(u.out _ _ _ _).mono ?_;rw[r];rintro e I ⟨rfl,B⟩;have s:=zA D B;replace A:=A.step B;clear h m j g i o;obtain⟨h,m,j,g,i,o⟩:=A.six;cases x with
 | false=>
   obtain rfl:R=false:=by rw[b];try simp
   clear b;exact mf1 s
 | true=>
   go_wp2_with fail;refine(u.out _ _ _ _).mono ?_;rw[z];rintro e J ⟨rfl,v⟩;have C:=zA s v;replace A:=A.step v;clear h m j g i o;obtain⟨h,m,j,g,i,o⟩:=A.six;cases y with
   | false=>
     obtain rfl:R=false:=by rw[b];try simp
     clear b;exact mf1 C
   | true=>
     obtain rfl:R=true:=by rw[b];try rfl
     clear b;exact mf1 C
theorem rcorrect14_3(f d rate first l k:Int)(w:World)(L:0≤k∧k≤1000):Calls Tryz.prog 67 #[.agg #[.int .i64 3,f,d,rate,first,l],k] w fun e E=>e = .returned (.bool (S14.okMatch ⟨3,f,d,rate,first,l⟩))∧Below w w E:=by
 have u:=zC fun n G H W=>zbB n G H W;obtain⟨R,a⟩:=zvJ (S14.okMatch ⟨3,f,d,rate,first,l⟩);rw[a];by_cases p:rate=0
 case neg=>
  have c:R=false:=by rw[←a];simp[S14.okMatch,S14.ctx,S14.only,p]
  subst c;clear a;go_enter Tryz.func67,Tryz.ntmps67;exact mf4
 subst p;by_cases t:first=0
 case neg=>
  have c:R=false:=by rw[←a];simp[S14.okMatch,S14.ctx,S14.only,t]
  subst c;clear a;go_enter Tryz.func67,Tryz.ntmps67;exact mf4
 subst t;by_cases q:l=0
 case neg=>
  have c:R=false:=by rw[←a];simp[S14.okMatch,S14.ctx,S14.only,q]
  subst c;clear a;go_enter Tryz.func67,Tryz.ntmps67;exact mf4
 subst q;obtain⟨x,y,r,z⟩:=zz2 (S14.has f 1 16) (S14.has d 1 32);have b:R=(x&&y):=by rw[←a,←r,←z];simp[S14.okMatch,S14.ctx,S14.only,Bool.and_assoc]
 clear a;obtain⟨K,F,A,D⟩:=zgE w [.int .i64 3,f,d,.int .i64 0,.int .i64 0,.int .i64 0] 56;obtain⟨h,m,j,g,i,o⟩:=A.six;go_enter Tryz.func67,Tryz.ntmps67;go_wp2_with (rw[F]);refine(u.out _ _ _ _).mono ?_;rw[r];rintro e I ⟨rfl,B⟩;have s:=zA D B;replace A:=A.step B;clear h m j g i o;obtain⟨h,m,j,g,i,o⟩:=A.six;cases x with
 | false=>
   obtain rfl:R=false:=by rw[b];try simp
   clear b;exact mf1 s
 | true=>
   go_wp2_with fail;refine(u.out _ _ _ _).mono ?_;rw[z];rintro e J ⟨rfl,v⟩;have C:=zA s v;replace A:=A.step v;clear h m j g i o;obtain⟨h,m,j,g,i,o⟩:=A.six;cases y with
   | false=>
     obtain rfl:R=false:=by rw[b];try simp
     clear b;exact mf1 C
   | true=>
     obtain rfl:R=true:=by rw[b];try rfl
     clear b;exact mf1 C
theorem rcorrect14_4(m l rate first j k:Int)(w:World)(P:0≤k∧k≤1000):Calls Tryz.prog 67 #[.agg #[.int .i64 4,m,l,rate,first,j],k] w fun e H=>e = .returned (.bool (S14.okAverage ⟨4,m,l,rate,first,j⟩ k))∧Below w w H:=by
 have p:=zC fun n J K W=>zbB n J K W;obtain⟨R,b⟩:=zvJ (S14.okAverage ⟨4,m,l,rate,first,j⟩ k);rw[b];by_cases y:m=0
 case neg=>
  have o:R=false:=by rw[←b];simp[S14.okAverage,S14.ctx,S14.only,y]
  subst o;clear b;go_enter Tryz.func67,Tryz.ntmps67;exact mf4
 subst y;by_cases q:rate=0
 case neg=>
  have o:R=false:=by rw[←b];simp[S14.okAverage,S14.ctx,S14.only,q]
  subst o;clear b;go_enter Tryz.func67,Tryz.ntmps67;exact mf4
 subst q;obtain⟨B,C,z,s,D,x⟩:=zz3 (S14.has l 0 256) (S14.has first 0 (k-1)) (S14.has j 0 (k-1));have a:R=(B&&C&&z):=by rw[←b,←s,←D,←x];simp[S14.okAverage,S14.ctx,S14.only,Bool.and_assoc]
 clear b;obtain⟨O,I,A,G⟩:=zgE w [.int .i64 4,.int .i64 0,l,.int .i64 0,first,j] 56;obtain⟨d,h,g,c,f,i⟩:=A.six;go_enter Tryz.func67,Tryz.ntmps67;go_wp2_with (rw[I]);refine(p.out _ _ _ _).mono ?_;rw[s];rintro e L ⟨rfl,E⟩;have t:=zA G E;replace A:=A.step E;clear d h g c f i;obtain⟨d,h,g,c,f,i⟩:=A.six;cases B with
 | false=>
   obtain rfl:R=false:=by rw[a];try simp
   clear a;exact mf1 t
 | true=>
   go_wp2_with fail;refine(p.out _ _ _ _).mono ?_;rw[D];rintro e M ⟨rfl,v⟩;have F:=zA t v;replace A:=A.step v;clear d h g c f i;obtain⟨d,h,g,c,f,i⟩:=A.six;cases C with
   | false=>
     obtain rfl:R=false:=by rw[a];try simp
     clear a;exact mf1 F
   | true=>
     go_wp2_with fail;refine(p.out _ _ _ _).mono ?_;rw[x];rintro e N ⟨rfl,r⟩;have u:=zA F r;replace A:=A.step r;clear d h g c f i;obtain⟨d,h,g,c,f,i⟩:=A.six;cases z with
     | false=>
       obtain rfl:R=false:=by rw[a];try simp
       clear a;exact mf1 u
     | true=>
       obtain rfl:R=true:=by rw[a];try rfl
       clear a;exact mf1 u
theorem rcorrect14_5(l o rate first i k:Int)(w:World)(U:0≤k∧k≤1000):Calls Tryz.prog 67 #[.agg #[.int .i64 5,l,o,rate,first,i],k] w fun e K=>e = .returned (.bool (S14.okMix ⟨5,l,o,rate,first,i⟩ k))∧Below w w K:=by
 have m:=zC fun n M N W=>zbB n M N W;obtain⟨R,j⟩:=zvJ (S14.okMix ⟨5,l,o,rate,first,i⟩ k);rw[j];by_cases v:o=0
 case neg=>
  have J:R=false:=by rw[←j];simp[S14.okMix,S14.ctx,S14.only,v]
  subst J;clear j;go_enter Tryz.func67,Tryz.ntmps67;exact mf4
 subst v;obtain⟨B,D,z,s,r,F,y,E⟩:=zz4 (S14.has l 0 16) (S14.has rate 1 255) (S14.has first 0 (k-1)) (S14.has i first (k-1));have a:R=(B&&D&&z&&s):=by rw[←j,←r,←F,←y,←E];simp[S14.okMix,S14.ctx,S14.only,Bool.and_assoc]
 clear j;obtain⟨T,L,A,I⟩:=zgE w [.int .i64 5,l,.int .i64 0,rate,first,i] 56;obtain⟨c,g,f,b,d,h⟩:=A.six;go_enter Tryz.func67,Tryz.ntmps67;go_wp2_with (rw[L]);refine(m.out _ _ _ _).mono ?_;rw[r];rintro e O ⟨rfl,G⟩;have t:=zA I G;replace A:=A.step G;clear c g f b d h;obtain⟨c,g,f,b,d,h⟩:=A.six;cases B with
 | false=>
   obtain rfl:R=false:=by rw[a];try simp
   clear a;exact mf1 t
 | true=>
   go_wp2_with fail;refine(m.out _ _ _ _).mono ?_;rw[F];rintro e P ⟨rfl,x⟩;have H:=zA t x;replace A:=A.step x;clear c g f b d h;obtain⟨c,g,f,b,d,h⟩:=A.six;cases D with
   | false=>
     obtain rfl:R=false:=by rw[a];try simp
     clear a;exact mf1 H
   | true=>
     go_wp2_with fail;refine(m.out _ _ _ _).mono ?_;rw[y];rintro e S ⟨rfl,q⟩;have u:=zA H q;replace A:=A.step q;clear c g f b d h;obtain⟨c,g,f,b,d,h⟩:=A.six;cases z with
     | false=>
       obtain rfl:R=false:=by rw[a];try simp
       clear a;exact mf1 u
     | true=>
       go_wp2_with fail;refine(m.out _ _ _ _).mono ?_;rw[E];rintro e Q ⟨rfl,C⟩;have p:=zA u C;replace A:=A.step C;clear c g f b d h;obtain⟨c,g,f,b,d,h⟩:=A.six;cases s with
       | false=>
         obtain rfl:R=false:=by rw[a];try simp
         clear a;exact mf1 p
       | true=>
         obtain rfl:R=true:=by rw[a];try rfl
         clear a;exact mf1 p
theorem rcorrect14_6(j m rate first l k:Int)(w:World)(P:0≤k∧k≤1000):Calls Tryz.prog 67 #[.agg #[.int .i64 6,j,m,rate,first,l],k] w fun e H=>e = .returned (.bool (S14.okRefine ⟨6,j,m,rate,first,l⟩ k))∧Below w w H:=by
 have p:=zC fun n J K W=>zbB n J K W;obtain⟨R,b⟩:=zvJ (S14.okRefine ⟨6,j,m,rate,first,l⟩ k);rw[b];by_cases v:m=0
 case neg=>
  have o:R=false:=by rw[←b];simp[S14.okRefine,S14.ctx,S14.only,v]
  subst o;clear b;go_enter Tryz.func67,Tryz.ntmps67;exact mf4
 subst v;by_cases r:l=0
 case neg=>
  have o:R=false:=by rw[←b];simp[S14.okRefine,S14.ctx,S14.only,r]
  subst o;clear b;go_enter Tryz.func67,Tryz.ntmps67;exact mf4
 subst r;obtain⟨B,C,z,s,D,y⟩:=zz3 (S14.has j 0 16) (S14.has rate 1 255) (S14.has first 0 (k-1));have a:R=(B&&C&&z):=by rw[←b,←s,←D,←y];simp[S14.okRefine,S14.ctx,S14.only,Bool.and_assoc]
 clear b;obtain⟨O,I,A,G⟩:=zgE w [.int .i64 6,j,.int .i64 0,rate,first,.int .i64 0] 56;obtain⟨d,h,g,c,f,i⟩:=A.six;go_enter Tryz.func67,Tryz.ntmps67;go_wp2_with (rw[I]);refine(p.out _ _ _ _).mono ?_;rw[s];rintro e L ⟨rfl,E⟩;have t:=zA G E;replace A:=A.step E;clear d h g c f i;obtain⟨d,h,g,c,f,i⟩:=A.six;cases B with
 | false=>
   obtain rfl:R=false:=by rw[a];try simp
   clear a;exact mf1 t
 | true=>
   go_wp2_with fail;refine(p.out _ _ _ _).mono ?_;rw[D];rintro e M ⟨rfl,x⟩;have F:=zA t x;replace A:=A.step x;clear d h g c f i;obtain⟨d,h,g,c,f,i⟩:=A.six;cases C with
   | false=>
     obtain rfl:R=false:=by rw[a];try simp
     clear a;exact mf1 F
   | true=>
     go_wp2_with fail;refine(p.out _ _ _ _).mono ?_;rw[y];rintro e N ⟨rfl,q⟩;have u:=zA F q;replace A:=A.step q;clear d h g c f i;obtain⟨d,h,g,c,f,i⟩:=A.six;cases z with
     | false=>
       obtain rfl:R=false:=by rw[a];try simp
       clear a;exact mf1 u
     | true=>
       obtain rfl:R=true:=by rw[a];try rfl
       clear a;exact mf1 u
theorem zrV(c:S14.C)(k:Int)(w:World)(h:0≤k∧k≤1000):Calls Tryz.prog 67 #[CV c,k] w fun e q=>e = .returned (.bool (S14.ok c k))∧Below w w q:=by
 obtain⟨a,g,f,b,first,d⟩:=c;unfold S14.ok CV zV;simp only;by_cases n:a=0
 ·subst n;rw[zQ rfl];exact rcorrect14_0 g f b first d k w h
 rw[zG n];by_cases o:a=1
 ·subst o;rw[zQ rfl];exact rcorrect14_1 g f b first d k w h
 rw[zG o];by_cases j:a=2
 ·subst j;rw[zQ rfl];exact rcorrect14_2 g f b first d k w h
 rw[zG j];by_cases l:a=3
 ·subst l;rw[zQ rfl];exact rcorrect14_3 g f b first d k w h
 rw[zG l];by_cases m:a=4
 ·subst m;rw[zQ rfl];exact rcorrect14_4 g f b first d k w h
 rw[zG m];by_cases i:a=5
 ·subst i;rw[zQ rfl];exact rcorrect14_5 g f b first d k w h
 rw[zG i];by_cases p:a=6
 ·subst p;rw[zQ rfl];exact rcorrect14_6 g f b first d k w h
 rw[zG p];have x:(a==0)=false:=by simp[n]
 have s:(a==1)=false:=by simp[o]
 have v:(a==2)=false:=by simp[j]
 have r:(a==3)=false:=by simp[l]
 have u:(a==4)=false:=by simp[m]
 have y:(a==5)=false:=by simp[i]
 have t:(a==6)=false:=by simp[p]
 go_enter Tryz.func67,Tryz.ntmps67;exact mf4
def OfV(c:S14.C):Value:=
 if c.kind=0 then .iface 87 (CV c)else if c.kind=1 then .iface 88 (CV c)else if c.kind=2 then .iface 89 (CV c)else if c.kind=3 then .iface 90 (CV c)
 else if c.kind=4 then .iface 91 (CV c)else if c.kind=5 then .iface 92 (CV c)else if c.kind=6 then .iface 93 (CV c)else .nilIface
theorem zhG(c:S14.C)(w:World):Calls Tryz.prog 17 #[CV c] w fun e k=>e = .returned (OfV c)∧Below w w k:=by
 obtain⟨a,v,u,q,first,s⟩:=c;unfold OfV CV zV;simp only;by_cases h:a=0
 ·subst h;rw[zQ rfl];go_enter Tryz.func17,Tryz.ntmps17;exact mf4
 rw[zG h];have r:(a==0)=false:=by simp[h]
 by_cases i:a=1
 ·subst i;rw[zQ rfl];go_enter Tryz.func17,Tryz.ntmps17;exact mf4
 rw[zG i];have m:(a==1)=false:=by simp[i]
 by_cases d:a=2
 ·subst d;rw[zQ rfl];go_enter Tryz.func17,Tryz.ntmps17;exact mf4
 rw[zG d];have p:(a==2)=false:=by simp[d]
 by_cases f:a=3
 ·subst f;rw[zQ rfl];go_enter Tryz.func17,Tryz.ntmps17;exact mf4
 rw[zG f];have l:(a==3)=false:=by simp[f]
 by_cases g:a=4
 ·subst g;rw[zQ rfl];go_enter Tryz.func17,Tryz.ntmps17;exact mf4
 rw[zG g];have o:(a==4)=false:=by simp[g]
 by_cases b:a=5
 ·subst b;rw[zQ rfl];go_enter Tryz.func17,Tryz.ntmps17;exact mf4
 rw[zG b];have t:(a==5)=false:=by simp[b]
 by_cases j:a=6
 ·subst j;rw[zQ rfl];go_enter Tryz.func17,Tryz.ntmps17;exact mf4
 rw[zG j];have n:(a==6)=false:=by simp[j]
 go_enter Tryz.func17,Tryz.ntmps17;exact mf4
def zfG(l:List S14.C):List Value:=(l.map zV).flatten
theorem zaB(l:List S14.C):(zfG l).length=6*l.length:=by
 induction l with
 | nil=>rfl
 | cons x a b=>simp[zfG,zV]at *;omega
theorem zrL:∀(l:List S14.C) {i j:Nat} {x:S14.C},l[i]? = some x→j<6→(zfG l)[6*i+j]? = (zV x)[j]?
 | [],i,j,x,h,_=>by simp at h
 | y::l,0,j,x,h,hj=>by
   obtain rfl:y=x:=by simpa using h
   show(zV y++zfG l)[6*0+j]? = _;rw[Nat.mul_zero,yE,zbH (by simp[zV];omega)]
 | y::l,i+1,j,x,h,hj=>by
   show(zV y++zfG l)[6*(i+1)+j]? = _;rw[yK (by simp[zV];omega)];have e:6*(i+1)+j-(zV y).length=6*i+j:=by simp[zV];omega
   rw[e];exact zrL l (by simpa using h) hj
structure Elem14(w:World)(g q:Nat)(x:S14.C):Prop where
 e0:w.cell? ⟨g,q,none⟩=some (.int .i64 x.kind)
 e1:w.cell? ⟨g,q+1,none⟩=some (.int .i64 x.bits)
 e2:w.cell? ⟨g,q+2,none⟩=some (.int .i64 x.limit)
 e3:w.cell? ⟨g,q+3,none⟩=some (.int .i64 x.rate)
 e4:w.cell? ⟨g,q+4,none⟩=some (.int .i64 x.first)
 e5:w.cell? ⟨g,q+5,none⟩=some (.int .i64 x.second)
theorem zoF{w:World}{g o:Nat}{l:List S14.C}(h:w.rangeAt g o (zfG l)){k:Nat}{x:S14.C}(d:l[k]? = some x):Elem14 w g (o+k*6) x:=by
 have a:∀j v,j<6→(zV x)[j]? = some v→w.cell? ⟨g,o+k*6+j,none⟩=some v:=fun j v b c=>by
  have:=h (6*k+j) v ((zrL l d b).trans c);rw[show o+(6*k+j)=o+k*6+j by omega]at this;exact this
 exact⟨a 0 _ om rfl,a 1 _ om rfl,a 2 _ om rfl,a 3 _ om rfl,a 4 _ om rfl,a 5 _ om rfl⟩
theorem S14.allOk_iff(l:List S14.C):S14.allOk l=true↔∀(k:Nat) (x:S14.C),l[k]? = some x→S14.ok x (k:Int)=true:=by
 unfold S14.allOk;rw[List.all_eq_true];constructor
 ·intro h k x b;have a:=(List.getElem?_eq_some_iff.1 b).1;have:=h k (List.mem_range.2 a);rw[List.getD,b]at this;exact this
 ·intro h k a;rw[List.mem_range]at a;rw[List.getD,zD a];exact h k _ (zD a)
theorem S14.check_few{l:List S14.C}(h:S14.has (l.length:Int) 1 16=false):S14.check l=6:=by
 unfold S14.check;unfold S14.has at h;rw[zQ (by have:=of_decide_eq_false h;omega)]
theorem S14.check_at{l:List S14.C}(h:S14.has (l.length:Int) 1 16=true){k:Nat}{x:S14.C}(c:l[k]? = some x)(a:S14.ok x (k:Int)=false):S14.check l=22:=by
 have d:=zbE h;have b:S14.allOk l≠true:=fun e=>by rw[(S14.allOk_iff l).1 e k x c]at a;cases a
 unfold S14.check;rw[zG om,zG b]
theorem S14.check_ok{l:List S14.C}(h:S14.has (l.length:Int) 1 16=true)(a:∀(k:Nat) (x:S14.C),l[k]? = some x→S14.ok x (k:Int)=true):S14.check l=0:=by
 have b:=zbE h;unfold S14.check;rw[zG om,zQ ((S14.allOk_iff l).2 a)]
theorem rcheck14_any(l:List S14.C)(a:Option Addr)(cap:Nat)(w:World)(hl:l.length≤4611686018427387904)(B:Rd w a (zfG l)) :
 Calls Tryz.prog 37 #[.slice a l.length cap] w fun e L=>e = .returned (.int .i64 (S14.check l))∧Below w w L:=by
 obtain⟨R,b⟩:=zvJ (S14.check l);rw[b];by_cases f:l.length<1
 ·have d:R=6:=by rw[←b];exact S14.check_few (by unfold S14.has;exact zL om)
  subst d;have I:decide ((l.length:Int)<1)=true:=zO om;clear b f;go_enter Tryz.func37,Tryz.ntmps37;go_wp2;go_returns;exact⟨rfl,zJ _ _⟩
 have I:decide ((l.length:Int)<1)=false:=zL om;by_cases u:16<l.length
 ·have d:R=6:=by rw[←b];exact S14.check_few (by unfold S14.has;exact zL om)
  subst d;have G:decide (16<(l.length:Int))=true:=zO om;clear b f u;go_enter Tryz.func37,Tryz.ntmps37;go_wp2;go_returns;exact⟨rfl,zJ _ _⟩
 have G:decide (16<(l.length:Int))=false:=zL om;have m:S14.has (l.length:Int) 1 16=true:=by unfold S14.has;exact zO om
 have N:=zC fun(x:S14.C) (k:Nat) W (O:k≤16)=>(show Calls Tryz.prog 67 #[.agg #[x.kind,x.bits,x.limit,x.rate,x.first,x.second],k] W _ from zrV x (k:Int) W om);have K:=zC fun(k:Nat) (x:S14.C) c p=>b.symm.trans (S14.check_at m (k:=k) (x:=x) c p);have M:=zC fun p=>b.symm.trans (S14.check_ok m p);have P:l.length≤16:=by omega
 have F:=zC B;clear b f u m B;go_enter Tryz.func37,Tryz.ntmps37;go_wp2_with fail;go_loopw [3] (fun i wr=>∃k:Nat,k≤l.length∧i = .int .i64 (k:Int)∧RowKit.Hid (∀(j:Nat) (x:S14.C),j<k→l[j]? = some x→S14.ok x (j:Int)=true)∧Below w w wr) (fun i _=>l.length-(intOf i).toNat)
 case atStart=>exact⟨0,by omega,rfl,zC (fun j x D=>by omega),zJ _ _⟩
 case round=>
  obtain⟨k,O,rfl,z,n⟩:=hrel;by_cases J:k<l.length
  ·obtain⟨x,c⟩:∃x,l[k]? = some x:=⟨_,zD J⟩;obtain⟨g,o,rfl,C⟩:=(F.out.step n) (fun e=>by have f:=yG List.length e;rw[zaB]at f;simp at f;omega);obtain⟨T,Y,V,S,U,Z⟩:=zoF C c;have H:decide ((k:Int)<(l.length:Int))=true:=zO om;have v:=zC fun W=>N.out x k W om;obtain⟨q,r⟩:=zvJ (S14.ok x (k:Int));rw[r]at v;obtain⟨t,s⟩:=zh2 r c;clear C c r;go_wp2_with fail;refine mnb n (v.out _) fun Q X E=> ?_;cases q with
   | false=>
     have d:=K.out k x s.out t.out;subst d;go_wp2_with fail;exact mf2 E
   | true=>
     go_wp2_with fail;go_roundw
     case rel=>exact⟨k+1,by omega,by go_num,zC (fun j y D A=>by
      rcases Nat.lt_succ_iff_lt_or_eq.1 D with h|rfl
      ·exact z.out j y h A
      ·have e:=s.out;rw[A]at e;cases e;exact t.out),E⟩
     case measure=>simp[intOf]<;>omega
  ·obtain rfl:k=l.length:=by omega
   have d:=M.out (fun j x c=>z.out j x (List.getElem?_eq_some_iff.1 c).1 c);subst d;have H:decide (((l.length:Nat):Int)<(l.length:Int))=false:=zL om;go_wp2_with fail;exact mf2 n
theorem xor_u32{a b:Nat}(c:a<4294967296)(d:b<4294967296):bits .xor .u32 (a:Int) (b:Int)=((a ^^^ b:Nat):Int):=by
 have f:(BitVec.ofInt 32 (a:Int)).toNat=a:=by rw[BitVec.ofInt_natCast,BitVec.toNat_ofNat];exact Nat.mod_eq_of_lt c
 have e:(BitVec.ofInt 32 (b:Int)).toNat=b:=by rw[BitVec.ofInt_natCast,BitVec.toNat_ofNat];exact Nat.mod_eq_of_lt d
 show IntKind.u32.wrap ((BitVec.ofInt 32 (a:Int) ^^^ BitVec.ofInt 32 (b:Int)).toNat:Int)=_;rw[BitVec.toNat_xor,f,e];have g:a ^^^ b<4294967296:=Nat.xor_lt_two_pow (n:=32) c d;simp only[IntKind.wrap,IntKind.bits,IntKind.signed];simp;omega
theorem hash_cast(c n f g M:Nat)(b d a:Int)(i:(f:Int)=b)(e:(g:Int)=d)(h:(M:Int)=a):((c:Int)+(n:Int)*b)%a*d%a=(((c+n*f)%M*g%M:Nat):Int):=by
 subst i e h;simp only[Int.natCast_emod,Int.natCast_mul,Int.natCast_add]
theorem ztH(a:Nat):(a:Int)/32768=((a/32768:Nat):Int):=by omega
theorem hash14_any(c n:Nat)(o:c<4294967296)(m:n<4294967296)(w:World):Calls Tryz.prog 66 #[.int .u32 (c:Int),n] w fun e j=>e = .returned (.int .u32 (S14.hash c n:Int))∧Below w w j:=by
 have f:=S14.hash0_lt c n;have g:=zC (xor_u32 (a:=S14.hash0 c n) (b:=S14.hash0 c n/32768) f (Nat.lt_of_le_of_lt (zfB _ _) f));go_enter Tryz.func66,Tryz.ntmps66;have k:=hash_cast c n S14.m1 S14.m2 4294967296 2654435769 2246822519 4294967296 rfl rfl rfl;obtain⟨x,d⟩:=zvJ (S14.hash0 c n);have i:S14.hash c n=x ^^^ x/32768:=by unfold S14.hash;rw[d]
 rw[show(c+n*S14.m1)%4294967296*S14.m2%4294967296=x from d]at k;rw[d]at g;rw[i];have h:=ztH x;have l:=g.out;rw[←h]at l;clear d i f g h;go_wp2;go_returns;exact⟨rfl,zJ _ _⟩
theorem zpW(c n:Nat)(o:c<4294967296)(m:n<4294967296)(w:World):Calls Tryz.prog 51 #[.int .u32 (c:Int),n] w fun e j=>e = .returned (.int .u32 (S14.hash c n:Int))∧Below w w j:=by
 have f:=S14.hash0_lt c n;have g:=zC (xor_u32 (a:=S14.hash0 c n) (b:=S14.hash0 c n/32768) f (Nat.lt_of_le_of_lt (zfB _ _) f));go_enter Tryz.func51,Tryz.ntmps51;have k:=hash_cast c n S14.m1 S14.m2 4294967296 2654435769 2246822519 4294967296 rfl rfl rfl;obtain⟨x,d⟩:=zvJ (S14.hash0 c n);have i:S14.hash c n=x ^^^ x/32768:=by unfold S14.hash;rw[d]
 rw[show(c+n*S14.m1)%4294967296*S14.m2%4294967296=x from d]at k;rw[d]at g;rw[i];have h:=ztH x;have l:=g.out;rw[←h]at l;clear d i f g h;go_wp2;go_returns;exact⟨rfl,zJ _ _⟩
theorem zrD(l:List S14.C)(a:Option Addr)(cap:Nat)(w:World)(hl:l.length≤4611686018427387904)(L:Rd w a (zfG l)) :
 Calls Tryz.prog 28 #[.slice a l.length cap] w fun e w'=>e = .returned (.int .i64 (S14.check l))∧Below w w w':=by
 have G:=zC fun W=>zaR (l.length:Int) 1 16 W;obtain⟨R,D⟩:=zvJ (S14.check l);rw[D];obtain⟨ab,C⟩:=zvJ (S14.has (l.length:Int) 1 16);rw[C]at G;cases ab with
 | false=>
   have n:R=6:=by rw[←D];exact S14.check_few C
   subst n;clear D C;go_enter Tryz.func28,Tryz.ntmps28;go_wp2_with fail;refine(G.out _).mono ?_;rintro e X ⟨rfl,H⟩;exact mf1 H
 | true=>
   have HO:=zC fun(x:S14.C) W=>(show Calls Tryz.prog 17 #[.agg #[x.kind,x.bits,x.limit,x.rate,x.first,x.second]] W _ from zhG x W);have A:=zC fun(k:Nat) (x:S14.C) B F=>D.symm.trans (S14.check_at C (k:=k) (x:=x) B F);have HZ:=zC fun F=>D.symm.trans (S14.check_ok C F);have ac:l.length≤16:=by have:=zbE C;omega
   have T:=zC L;clear D L C;go_enter Tryz.func28,Tryz.ntmps28;go_wp2_with fail;refine(G.out _).mono ?_;rintro e X ⟨rfl,H⟩;go_wp2_with fail;go_loopw [12] (fun i wr=>∃k:Nat,k≤l.length∧i = .int .i64 (k:Int)∧RowKit.Hid (∀(j:Nat) (x:S14.C),j<k→l[j]? = some x→S14.ok x (j:Int)=true)∧Below w w wr) (fun i _=>l.length-(intOf i).toNat)
   case atStart=>exact⟨0,by omega,rfl,zC (fun j x t=>by omega),H⟩
   case round=>
    obtain⟨k,hk,rfl,z,E⟩:=hrel;by_cases aa:k<l.length
    ·obtain⟨x,B⟩:∃x,l[k]? = some x:=⟨_,zD aa⟩;obtain⟨g,o,rfl,N⟩:=(T.out.step E) (fun e=>by have Q:=yG List.length e;rw[zaB]at Q;simp at Q;omega);obtain⟨x0,x1,x2,Z,x4,x5⟩:=zoF N B;have U:decide ((k:Int)<(l.length:Int))=true:=zO om;obtain⟨q,b⟩:=zvJ (S14.ok x (k:Int));obtain⟨p,r⟩:=zh2 b B;clear N B b;go_wp2_with fail;refine(HO.out x _).mono ?_;rintro e w2 ⟨rfl,Y⟩;have s:Below w w w2:=zA (E.alloc E.size _) Y;clear x0 x1 x2 Z x4 x5;obtain⟨V,f⟩:=zvJ (OfV x);rw[f];unfold OfV at f;have b:=p.out;unfold S14.ok at b;by_cases O:x.kind=0
     ·rw[zQ O]at f b;subst f;have d:=zC fun W=>zuU x (k:Int) W;rw[b]at d;clear b;cases q with
      | false=>
        have n:=A.out k x r.out p.out;subst n;go_wp2_with fail;refine mnb s (d.out _) fun u v c=> ?_;go_wp2_with fail;exact mf2 c
      | true=>
        go_wp2_with fail;refine mnb s (d.out _) fun u v c=> ?_;go_wp2_with fail;go_roundw
        case rel=>exact⟨k+1,by omega,by go_num,zC (fun j y t m=>by
         rcases Nat.lt_succ_iff_lt_or_eq.1 t with h|rfl
         ·exact z.out j y h m
         ·have e:=r.out;rw[m]at e;cases e;exact p.out),c⟩
        case measure=>simp[intOf]<;>omega
     rw[zG O]at f b;by_cases P:x.kind=1
     ·rw[zQ P]at f b;subst f;have d:=zC fun W=>direct14_ok x (k:Int) W;rw[b]at d;clear b;cases q with
      | false=>
        have n:=A.out k x r.out p.out;subst n;go_wp2_with fail;refine mnb s (d.out _) fun u v c=> ?_;go_wp2_with fail;exact mf2 c
      | true=>
        go_wp2_with fail;refine mnb s (d.out _) fun u v c=> ?_;go_wp2_with fail;go_roundw
        case rel=>exact⟨k+1,by omega,by go_num,zC (fun j y t m=>by
         rcases Nat.lt_succ_iff_lt_or_eq.1 t with h|rfl
         ·exact z.out j y h m
         ·have e:=r.out;rw[m]at e;cases e;exact p.out),c⟩
        case measure=>simp[intOf]<;>omega
     rw[zG P]at f b;by_cases J:x.kind=2
     ·rw[zQ J]at f b;subst f;have d:=zC fun W=>history14_ok x (k:Int) W;rw[b]at d;clear b;cases q with
      | false=>
        have n:=A.out k x r.out p.out;subst n;go_wp2_with fail;refine mnb s (d.out _) fun u v c=> ?_;go_wp2_with fail;exact mf2 c
      | true=>
        go_wp2_with fail;refine mnb s (d.out _) fun u v c=> ?_;go_wp2_with fail;go_roundw
        case rel=>exact⟨k+1,by omega,by go_num,zC (fun j y t m=>by
         rcases Nat.lt_succ_iff_lt_or_eq.1 t with h|rfl
         ·exact z.out j y h m
         ·have e:=r.out;rw[m]at e;cases e;exact p.out),c⟩
        case measure=>simp[intOf]<;>omega
     rw[zG J]at f b;by_cases K:x.kind=3
     ·rw[zQ K]at f b;subst f;have d:=zC fun W=>matched14_ok x (k:Int) W;rw[b]at d;clear b;cases q with
      | false=>
        have n:=A.out k x r.out p.out;subst n;go_wp2_with fail;refine mnb s (d.out _) fun u v c=> ?_;go_wp2_with fail;exact mf2 c
      | true=>
        go_wp2_with fail;refine mnb s (d.out _) fun u v c=> ?_;go_wp2_with fail;go_roundw
        case rel=>exact⟨k+1,by omega,by go_num,zC (fun j y t m=>by
         rcases Nat.lt_succ_iff_lt_or_eq.1 t with h|rfl
         ·exact z.out j y h m
         ·have e:=r.out;rw[m]at e;cases e;exact p.out),c⟩
        case measure=>simp[intOf]<;>omega
     rw[zG K]at f b;by_cases M:x.kind=4
     ·rw[zQ M]at f b;subst f;have d:=zC fun W=>average14_ok x (k:Int) W om;rw[b]at d;clear b;cases q with
      | false=>
        have n:=A.out k x r.out p.out;subst n;go_wp2_with fail;refine mnb s (d.out _) fun u v c=> ?_;go_wp2_with fail;exact mf2 c
      | true=>
        go_wp2_with fail;refine mnb s (d.out _) fun u v c=> ?_;go_wp2_with fail;go_roundw
        case rel=>exact⟨k+1,by omega,by go_num,zC (fun j y t m=>by
         rcases Nat.lt_succ_iff_lt_or_eq.1 t with h|rfl
         ·exact z.out j y h m
         ·have e:=r.out;rw[m]at e;cases e;exact p.out),c⟩
        case measure=>simp[intOf]<;>omega
     rw[zG M]at f b;by_cases I:x.kind=5
     ·rw[zQ I]at f b;subst f;have d:=zC fun W=>mixed14_ok x (k:Int) W om;rw[b]at d;clear b;cases q with
      | false=>
        have n:=A.out k x r.out p.out;subst n;go_wp2_with fail;refine mnb s (d.out _) fun u v c=> ?_;go_wp2_with fail;exact mf2 c
      | true=>
        go_wp2_with fail;refine mnb s (d.out _) fun u v c=> ?_;go_wp2_with fail;go_roundw
        case rel=>exact⟨k+1,by omega,by go_num,zC (fun j y t m=>by
         rcases Nat.lt_succ_iff_lt_or_eq.1 t with h|rfl
         ·exact z.out j y h m
         ·have e:=r.out;rw[m]at e;cases e;exact p.out),c⟩
        case measure=>simp[intOf]<;>omega
     rw[zG I]at f b;by_cases S:x.kind=6
     ·rw[zQ S]at f b;subst f;have d:=zC fun W=>refined14_ok x (k:Int) W om;rw[b]at d;clear b;cases q with
      | false=>
        have n:=A.out k x r.out p.out;subst n;go_wp2_with fail;refine mnb s (d.out _) fun u v c=> ?_;go_wp2_with fail;exact mf2 c
      | true=>
        go_wp2_with fail;refine mnb s (d.out _) fun u v c=> ?_;go_wp2_with fail;go_roundw
        case rel=>exact⟨k+1,by omega,by go_num,zC (fun j y t m=>by
         rcases Nat.lt_succ_iff_lt_or_eq.1 t with h|rfl
         ·exact z.out j y h m
         ·have e:=r.out;rw[m]at e;cases e;exact p.out),c⟩
        case measure=>simp[intOf]<;>omega
     rw[zG S]at f b;subst f b;have n:=A.out k x r.out p.out;subst n;go_wp2_with fail;exact mf2 s
    ·obtain rfl:k=l.length:=by omega
     have n:=HZ.out (fun j x B=>z.out j x (List.getElem?_eq_some_iff.1 B).1 B);subst n;have U:decide (((l.length:Nat):Int)<(l.length:Int))=false:=zL om;go_wp2_with fail;exact mf2 E
theorem zjY{n:Nat}(h:n≤16):1≤2^n∧2^n≤65536:=⟨Nat.one_le_two_pow,zcP (n:=2) om h⟩
theorem zgR(c:S14.C)(n P:Nat)(g:n≤16)(b:c.bits=n)(a:2^n=P)(w:World):Calls Tryz.prog 160 #[CV c] w fun e d=>e = .returned (.int .i64 (P:Int))∧Below w w d:=by
 obtain⟨j,k,i,h,first,l⟩:=c;simp only at b;subst b;have f:=zjY g;rw[a]at f;have m:(2:Int)^n=(P:Int):=by rw[←a];simp
 clear a;unfold CV zV;go_enter Tryz.func160,Tryz.ntmps160;go_wp2_with fail;go_returns;exact⟨rfl,by go_grown⟩
theorem rcount14_any(w:World):Calls Tryz.prog 71 #[] w fun e a=>e = .returned (.int .i64 215)∧Below w w a:=by
 go_enter Tryz.func71,Tryz.ntmps71;exact mf4
def S14.zc:S14.C:=⟨0,0,0,0,0,0⟩
theorem S14.has_iff{n b a:Int}:S14.has n b a=true↔b≤n∧n≤a:=by unfold S14.has;exact decide_eq_true_iff
structure S14.Is(x:S14.C)(k:Int):Prop where
 kind:x.kind=0∨x.kind=1∨x.kind=2∨x.kind=3∨x.kind=4∨x.kind=5∨x.kind=6
 bits:0≤x.bits∧x.bits≤16
 mix:x.kind=5→0≤x.first∧x.first≤x.second∧x.second≤k-1
theorem S14.ok_is{x:S14.C}{k:Int}(h:S14.ok x k=true):S14.Is x k:=by
 unfold S14.ok at h;obtain⟨a,m,l,j,first,n⟩:=x;simp only at h;by_cases c:a=0
 ·rw[zQ c]at h;simp[S14.okConst,S14.only,S14.has_iff]at h;exact⟨by simp only;omega,by simp only;omega,by simp only;omega⟩
 rw[zG c]at h;by_cases d:a=1
 ·rw[zQ d]at h;simp[S14.okDirect,S14.only,S14.has_iff]at h;exact⟨by simp only;omega,by simp only;omega,by simp only;omega⟩
 rw[zG d]at h;by_cases f:a=2
 ·rw[zQ f]at h;simp[S14.okDirect,S14.only,S14.has_iff]at h;exact⟨by simp only;omega,by simp only;omega,by simp only;omega⟩
 rw[zG f]at h;by_cases e:a=3
 ·rw[zQ e]at h;simp[S14.okMatch,S14.only,S14.has_iff]at h;exact⟨by simp only;omega,by simp only;omega,by simp only;omega⟩
 rw[zG e]at h;by_cases i:a=4
 ·rw[zQ i]at h;simp[S14.okAverage,S14.only,S14.has_iff]at h;exact⟨by simp only;omega,by simp only;omega,by simp only;omega⟩
 rw[zG i]at h;by_cases b:a=5
 ·rw[zQ b]at h;simp[S14.okMix,S14.only,S14.has_iff]at h;exact⟨by simp only;omega,by simp only;omega,fun _=>by simp only;omega⟩
 rw[zG b]at h;by_cases g:a=6
 ·rw[zQ g]at h;simp[S14.okRefine,S14.only,S14.has_iff]at h;exact⟨by simp only;omega,by simp only;omega,by simp only;omega⟩
 rw[zG g]at h;cases h
theorem S14.check_zero{l:List S14.C}(h:S14.check l=0):1≤l.length∧l.length≤16∧∀(k:Nat) (x:S14.C),l[k]? = some x→S14.ok x (k:Int)=true:=by
 unfold S14.check at h;split at h
 ·cases h
 ·split at h
  ·rename_i b a
   exact⟨by omega,by omega,(S14.allOk_iff l).1 a⟩
  ·cases h
