/- A part of the proof of L14l. No condition. -/
import Derived.Deep.Light
import Derived.Test.YthhgkafloejjiaaGreatRows
import Derived.WalkLawsBesides
import Derived.WalkSpells
import Derived.Test.YthhgkafloejjiaaGreatZL14lac
import Derived.Test.YthhgkafloejjiaaGreatZL14lag
set_option linter.all false
set_option maxRecDepth 100000
set_option maxHeartbeats 2000000
namespace Go.Proofs.YthhgkafloejjiaaGreat
open Go.RowKit
theorem zfW(n:Int)(w:World):Calls Tryz.prog 123 #[n] w fun e c=>e = .returned (.int .i64 (S09.bound n (-1)))∧Below w w c:=by
 by_cases f:n=0∨n=1∨n=2∨n=3∨n=4∨n=5
 ·rcases f with rfl|rfl|rfl|rfl|rfl|rfl;all_goals (go_enter Tryz.func123,Tryz.ntmps123;go_wp2;go_returns;exact⟨rfl,by go_grown⟩)
 ·have i:¬n=0:=by omega
  have h:¬n=1:=by omega
  have a:¬n=2:=by omega
  have d:¬n=3:=by omega
  have b:¬n=4:=by omega
  have g:¬n=5:=by omega
  have e:S09.bound n (-1)=(-1):=by unfold S09.bound;rw[zG i,zG h,zG a,zG d,zG b,zG g]
  rw[e];go_enter Tryz.func123,Tryz.ntmps123;exact mf4
theorem zaW(n:Int)(w:World):Calls Tryz.prog 85 #[n] w fun e c=>e = .returned (.int .i64 (S09.bound n 0))∧Below w w c:=by
 by_cases f:n=0∨n=1∨n=2∨n=3∨n=4∨n=5
 ·rcases f with rfl|rfl|rfl|rfl|rfl|rfl;all_goals (go_enter Tryz.func85,Tryz.ntmps85;go_wp2;go_returns;exact⟨rfl,by go_grown⟩)
 ·have i:¬n=0:=by omega
  have h:¬n=1:=by omega
  have a:¬n=2:=by omega
  have d:¬n=3:=by omega
  have b:¬n=4:=by omega
  have g:¬n=5:=by omega
  have e:S09.bound n 0=0:=by unfold S09.bound;rw[zG i,zG h,zG a,zG d,zG b,zG g]
  rw[e];go_enter Tryz.func85,Tryz.ntmps85;exact mf4
theorem ztF(n:Int)(w:World)(j:0≤n)(i:n≤1000):Calls Tryz.prog 193 #[n] w fun e d=>e = .returned (.int .i64 (S09.fade n))∧Below w w d:=by
 by_cases b:2<n
 ·obtain⟨m,rfl⟩:∃m:Nat,n=(m:Int)+2:=⟨(n-2).toNat,by omega⟩;have a:(((m:Int)+2-2)).tdiv 3=((m/3:Nat):Int):=by rw[show(m:Int)+2-2=(m:Int) by omega];rfl
  have h:IntKind.i64.wrap ((m:Int)+2-2)=(m:Int)+2-2:=IntWalk.i64_in _ om;have c:IntKind.i64.wrap (((m:Int)+2-2).tdiv 3)=((m:Int)+2-2).tdiv 3:=IntWalk.i64_in _ (by rw[a];omega);have g:IntKind.i64.wrap (2+((m:Int)+2-2).tdiv 3)=2+((m:Int)+2-2).tdiv 3:=IntWalk.i64_in _ (by rw[a];omega);go_enter Tryz.func193,Tryz.ntmps193;go_wp2;go_returns;refine⟨zbM ?_,by go_grown⟩;try go_light
  unfold S09.fade;rw[zQ b];first|rfl|(simp only[h,c,g])|omega
 ·go_enter Tryz.func193,Tryz.ntmps193;go_wp2;go_returns;refine⟨zbM ?_,by go_grown⟩;try go_light
  have f:¬2<n:=by omega
  unfold S09.fade;rw[zG f]
theorem zlK(z o:Int)(w:World):Calls Tryz.prog 122 #[z,o] w fun e f=>e = .returned (.bool (S09.allowed z o))∧Below w w f:=by
 rcases(show z<o∨z=o∨o<z by omega)with h|h|h
 ·have e:S09.allowed z o=decide (o≤S09.bound z (-1)):=by unfold S09.allowed;rw[Int.min_eq_left om,Int.max_eq_right om]
  have d:¬o<z:=by omega
  have g:z≤o:=by omega
  rw[e];go_enter Tryz.func122,Tryz.ntmps122;go_wp2_with fail;refine mnx w (zfW _ _) fun c b a _=> ?_;exact mf1 a
 ·subst h;have e:S09.allowed z z=decide (z≤S09.bound z (-1)):=by unfold S09.allowed;rw[Int.min_eq_left om,Int.max_eq_right om]
  rw[e];go_enter Tryz.func122,Tryz.ntmps122;go_wp2_with fail;refine mnx w (zfW _ _) fun c b a _=> ?_;exact mf1 a
 ·have e:S09.allowed z o=decide (z≤S09.bound o (-1)):=by unfold S09.allowed;rw[Int.min_eq_right om,Int.max_eq_left om]
  have d:¬z<o:=by omega
  have g:o≤z:=by omega
  rw[e];go_enter Tryz.func122,Tryz.ntmps122;go_wp2_with fail;refine mnx w (zfW _ _) fun c b a _=> ?_;exact mf1 a
theorem zcJ(z o:Int)(w:World):Calls Tryz.prog 121 #[z,o] w fun e q=>e = .returned (.bool (S09.rallowed z o))∧Below w w q:=by
 by_cases i:0≤z
 case neg=>
  have e:S09.rallowed z o=false:=by simp[S09.rallowed,i]
  rw[e];go_enter Tryz.func121,Tryz.ntmps121;exact mf4
 by_cases f:0≤o
 case neg=>
  have e:S09.rallowed z o=false:=by simp[S09.rallowed,f]
  rw[e];go_enter Tryz.func121,Tryz.ntmps121;exact mf4
 obtain⟨a,b,n,m⟩:∃a b,min z o=a∧max z o=b:=⟨_,_,rfl,rfl⟩;have g:S09.rallowed z o=decide (a≤5∧b≤S09.bound a 0):=by simp[S09.rallowed,i,f,n,m]
 rw[g];have k:z<o∧a=z∧b=o∨z=o∧a=z∧b=z∨o<z∧a=o∧b=z:=by omega
 clear n m g;by_cases j:a≤5
 case neg=>
  have e:decide (a≤5∧b≤S09.bound a 0)=false:=by simp[j]
  rw[e];rcases k with⟨h,rfl,rfl⟩|⟨rfl,rfl,rfl⟩|⟨h,rfl,rfl⟩
  all_goals
   go_enter Tryz.func121,Tryz.ntmps121;exact mf4
 have e:decide (a≤5∧b≤S09.bound a 0)=decide (b≤S09.bound a 0):=by simp[j]
 rw[e];rcases k with⟨h,rfl,rfl⟩|⟨rfl,rfl,rfl⟩|⟨h,rfl,rfl⟩
 ·have p:¬b<a:=by omega
  go_enter Tryz.func121,Tryz.ntmps121;go_wp2_with fail;refine mnx w (zaW _ _) fun l d c _=> ?_;exact mf1 c
 ·go_enter Tryz.func121,Tryz.ntmps121;go_wp2_with fail;refine mnx w (zaW _ _) fun l d c _=> ?_;exact mf1 c
 ·have p:¬b<a:=by omega
  go_enter Tryz.func121,Tryz.ntmps121;go_wp2_with fail;refine mnx w (zaW _ _) fun l d c _=> ?_;exact mf1 c
theorem S09.bound_le(a b:Int)(h:b≤30):S09.bound a b≤30:=by
 unfold S09.bound
 (repeat' split)<;>omega
theorem S09.rallowed_bounds{z o:Int}(h:S09.rallowed z o=true):0≤z∧z≤30∧0≤o∧o≤30:=by
 have a:=zbE h;have:=S09.bound_le (min z o) 0 om;omega
theorem zhC(z o l:Int)(w:World):Calls Tryz.prog 112 #[z,o,l] w fun e f=>e = .returned (.bool (S09.is z o l))∧Below w w f:=by
 cases ha:S09.rallowed z o with
 | false=>
   have e:S09.is z o l=false:=by simp[S09.is,ha]
   rw[e];go_enter Tryz.func112,Tryz.ntmps112;go_wp2_with fail;refine(zcJ _ _ _).mono ?_;rw[ha];rintro e b ⟨rfl,a⟩;have c:Below w w b:=zA zo a;exact mf1 c
 | true=>
   obtain⟨m,k,i,j⟩:=S09.rallowed_bounds ha;have n:IntKind.i64.wrap (z+o)=z+o:=IntWalk.i64_in _ om;by_cases d:z+o=0
   ·have e:S09.is z o l=decide (l=0):=by simp[S09.is,ha,d]
    rw[e];go_enter Tryz.func112,Tryz.ntmps112;go_wp2_with fail;refine(zcJ _ _ _).mono ?_;rw[ha];rintro e b ⟨rfl,a⟩;have c:Below w w b:=zA zo a;go_wp2;go_returns;exact⟨zaA (by first|rfl|simp),c⟩
   ·have e:S09.is z o l=((decide (l=0)&&decide (0<z))||(decide (l=1)&&decide (0<o))):=by simp[S09.is,ha,d]
    rw[e];by_cases h:l=0
    ·subst h;go_enter Tryz.func112,Tryz.ntmps112;go_wp2_with fail;refine(zcJ _ _ _).mono ?_;rw[ha];rintro e b ⟨rfl,a⟩;have c:Below w w b:=zA zo a;go_wp2;all_goals (go_returns;exact⟨zaA (by first|rfl|simp_all),c⟩)
    ·by_cases g:l=1
     ·subst g;go_enter Tryz.func112,Tryz.ntmps112;go_wp2_with fail;refine(zcJ _ _ _).mono ?_;rw[ha];rintro e b ⟨rfl,a⟩;have c:Below w w b:=zA zo a;go_wp2;all_goals (go_returns;exact⟨zaA (by first|rfl|simp_all),c⟩)
     ·go_enter Tryz.func112,Tryz.ntmps112;go_wp2_with fail;refine(zcJ _ _ _).mono ?_;rw[ha];rintro e b ⟨rfl,a⟩;have c:Below w w b:=zA zo a;go_wp2;all_goals (go_returns;exact⟨zaA (by first|rfl|simp_all),c⟩)
abbrev S09.hist(z o l:Int):Value:=.agg #[z,o,l]
def S09.Visited(Inv:Nat→World→Prop)(go:Nat→Nat→Nat→Bool)(w':World):Prop:=
 Inv 215 w'∨∃t o l,t≤30∧o≤t∧l<2∧S09.ok t o l=true∧go t o l=false∧Inv (S09.cnt t o l+1) w'
def S09.Visits(F:FuncId)(caps:Array Value)(Inv:Nat→World→Prop)(go:Nat→Nat→Nat→Bool):Prop:=
 ∀t o l w,t≤30→o≤t→l<2→S09.ok t o l=true→Inv (S09.cnt t o l) w→
  Calls Tryz.prog F (#[.int .i64 (S09.cnt t o l),S09.hist ((t:Int)-o) o l]++caps) w fun e w'=>e = .returned (.bool (go t o l))∧Inv (S09.cnt t o l+1) w'
theorem S09.allowed_nat{t o:Nat}(b:o≤t)(a:t≤30):S09.allowed ((t:Int)-o) o=S09.rallowed ((t:Int)-o) o:=by
 have:S09.allPlaces (fun t o _=>S09.allowed ((t:Int)-o) o==S09.rallowed ((t:Int)-o) o)=true:=by decide +kernel
 simpa using S09.allPlaces_spec this a b (l:=0) om
theorem S09.ok_eq{t o l:Nat}(c:o≤t)(b:1≤t)(a:l<2):S09.ok t o l=(S09.rallowed ((t:Int)-o) o&&(decide (l=0∧o<t)||decide (l=1∧0<o))):=by
 unfold S09.ok S09.is;rw[zG om]
 congr 1
 rcases(show l=0∨l=1 by omega)with rfl|rfl<;>simp<;>omega
theorem S09.cnt_lt{t o l:Nat}(b:t≤30)(c:o≤t)(a:l<2)(h:S09.ok t o l=true):S09.cnt t o l<215:=(S09.at_place b c a h).1
theorem S09.cL_le(t o b:Nat):∀l,S09.cL t o b l≤b+l
 | 0=>zF _
 | l+1=>by have:=S09.cL_le t o b l;simp only[S09.cL];split<;>omega
theorem S09.cO_le(t b:Nat):∀o,S09.cO t b o≤b+2*o
 | 0=>by simp[S09.cO]
 | o+1=>by have:=S09.cO_le t b o;have:=S09.cL_le t o (S09.cO t b o) 2;simp only[S09.cO];omega
theorem S09.cT_small:(List.range 32).all (fun t=>decide (S09.cT t≤215))=true:=by decide +kernel
theorem S09.cT_le{t:Nat}(h:t≤31):S09.cT t≤215:=by
 have:=S09.cT_small;simp only[List.all_eq_true,List.mem_range,yC]at this;exact this t om
theorem zmW(F:FuncId)(hF:∀ac w,(callFunc F ac).run Tryz.prog w = .ok (.enter F ac) w)(G:Array Value)(h:Nat→World→Prop)(r:Nat→Nat→Nat→Bool)
 (S:∀k w q,h k w→Below w w q→h k q) (K:S09.Visits F G h r) (w:World) (h0:h 0 w) :
 Calls Tryz.prog 116 #[.func (.func F) #[] G] w fun e q=>e = .returned (.tuple #[])∧S09.Visited h r q:=by
 have X:Calls Tryz.prog F (#[.int .i64 0,S09.hist 0 0 0]++G) w fun e q=>e = .returned (.bool (r 0 0 0))∧h 1 q:=
  K 0 0 0 w om om om by2 h0
 obtain⟨Z,Hv,z⟩:=zh3 S K X;clear X K S;cases hg0:r 0 0 0 with
 | false=>
   rw[hg0]at z;have ae:=zC hg0;clear hg0;go_enter Tryz.func116,Tryz.ntmps116;go_wp2_with fail;refine z.out.mono ?_;rintro e w1 ⟨rfl,I⟩;go_wp2;go_returns;exact⟨rfl,.inr ⟨0,0,0,by omega,by omega,by omega,by decide,ae.out,I⟩⟩
 | true=>
   rw[hg0]at z;clear hg0;go_enter Tryz.func116,Tryz.ntmps116;go_wp2_with fail;refine z.out.mono ?_;rintro e w1 ⟨rfl,I⟩;go_wp2;go_loopw [2,3] (fun s t wr=>∃T:Nat,1≤T∧T≤31∧t = .int .i64 T∧s = .int .i64 (S09.cT T)∧h (S09.cT T) wr) (fun _ t _=>31-(intOf t).toNat)
   case atStart=>exact⟨1,by omega,by omega,rfl,rfl,I⟩
   case round=>
    obtain⟨wo,rfl⟩:∃wo:World,wo=wr:=⟨_,rfl⟩;obtain⟨T,aa,ad,rfl,rfl,Q⟩:=hrel;have aj:=S09.cT_le ad;by_cases u:T≤30
    ·have d1:decide ((T:Int)≤30)=true:=by simp;omega
     go_wp2;go_loopw [2,17] (fun s c wr=>∃O:Nat,O≤T+1∧c = .int .i64 O∧s = .int .i64 (S09.cO T (S09.cT T) O)∧h (S09.cO T (S09.cT T) O) wr) (fun _ c _=>32-(intOf c).toNat)
     case atStart=>exact⟨0,by omega,rfl,rfl,Q⟩
     case round=>
      obtain⟨O,hO,rfl,rfl,C⟩:=hrel;have af:=S09.cO_le T (S09.cT T) O;by_cases m:O≤T
      ·have d2:decide ((O:Int)<(T:Int)+1)=true:=by simp;omega
       have p:=S09.allowed_nat m u;have U:S09.cO T (S09.cT T) (O+1)=S09.cL T O (S09.cO T (S09.cT T) O) 2:=rfl;have y:=zC U;clear U;cases hra:S09.rallowed ((T:Int)-O) O with
       | false=>
         rw[hra]at p;have D:∀l,l<2→S09.ok T O l=false:=fun l P=>by rw[S09.ok_eq m aa P,hra];rfl
         have Y:S09.cL T O (S09.cO T (S09.cT T) O) 2=S09.cO T (S09.cT T) O:=by simp[S09.cL,D 0,D 1]
         have V:=zC Y;clear Y D hra;have v:=zC fun W=>zlK ((T:Int)-O) O W;rw[p]at v;clear p;go_wp2_with fail;refine(v.out _).mono ?_;rintro e w2 ⟨rfl,H⟩;have B:=Z.out _ _ _ C H;go_wp2;go_roundw
         case rel=>exact⟨O+1,by omega,by go_num,by rw[y.out,V.out],by rw[y.out,V.out];exact B⟩
         case measure=>simp[intOf];omega
       | true=>
         rw[hra]at p;have ab:∀l,l<2→S09.ok T O l=(decide (l=0∧O<T)||decide (l=1∧0<O)):=fun l P=>by rw[S09.ok_eq m aa P,hra];rfl
         have A:=zC ab;clear ab hra;have v:=zC fun W=>zlK ((T:Int)-O) O W;rw[p]at v;clear p;go_wp2_with fail;refine(v.out _).mono ?_;rintro e w2 ⟨rfl,H⟩;have B:=Z.out _ _ _ C H;obtain⟨a,J⟩:∃b,b=S09.cO T (S09.cT T) O:=⟨_,rfl⟩;have ag:=zC J;rw[←J]at B af y⊢;clear J C;go_wp2;go_loopw [2,27] (fun s c wr=>∃L:Nat,L≤2∧c = .int .i64 L∧s = .int .i64 (S09.cL T O a L)∧h (S09.cL T O a L) wr) (fun _ c _=>2-(intOf c).toNat)
         case atStart=>exact⟨0,by omega,rfl,rfl,B⟩
         case round=>
          obtain⟨L,hL,rfl,rfl,x⟩:=hrel;have ak:=S09.cL_le T O a L;have j:S09.cL T O a L=S09.cnt T O L:=by rw[ag.out];rfl
          rcases(show L=2∨L=0∨L=1 by omega)with rfl|rfl|rfl
          ·go_wp2;go_roundw
           case rel=>exact⟨O+1,by omega,by go_num,by rw[y.out],by rw[y.out];exact x⟩
           case measure=>simp[intOf];omega
          ·by_cases N:O=T
           ·have d:S09.ok T O 0=false:=by rw[A.out 0 om];simp;omega
            have g:S09.cL T O a 1=S09.cL T O a 0:=by simp[S09.cL,d]
            have f:=zC g;clear g d;have e0:(T:Int)-O=0:=by omega
            subst N;go_wp2;go_roundw
            case rel=>exact⟨1,by omega,by go_num,by rw[f.out],by rw[f.out];exact x⟩
            case measure=>simp[intOf]
           ·have d:S09.ok T O 0=true:=by rw[A.out 0 om];simp;omega
            have g:S09.cL T O a 1=S09.cL T O a 0+1:=by simp[S09.cL,d]
            have f:=zC g;clear g;have o:=Hv.out T O 0 _ u m om d (j▸x);have ai:¬(T:Int)-O=0:=by omega
            rw[←j]at o;have i:=zC o;clear o;have E:=zC j;clear j;have ah:S09.cL T O a 0≤300:=by omega
            generalize S09.cL T O a 0=c0 at *;cases hg:r T O 0 with
            | false=>
              rw[hg]at i;have R:=zC hg;clear hg;go_wp2_with fail;refine i.out.mono ?_;rintro e M ⟨rfl,n⟩;go_wp2;go_returns;exact⟨rfl,.inr ⟨T,O,0,u,m,by omega,d,R.out,by rw[←E.out];exact n⟩⟩
            | true=>
              rw[hg]at i;clear hg;go_wp2_with fail;refine i.out.mono ?_;rintro e M ⟨rfl,n⟩;go_wp2;go_roundw
              case rel=>exact⟨1,by omega,by go_num,by rw[f.out];go_num,by rw[f.out];exact n⟩
              case measure=>simp[intOf]
          ·by_cases N:O=0
           ·have d:S09.ok T O 1=false:=by rw[A.out 1 om];simp;omega
            have g:S09.cL T O a 2=S09.cL T O a 1:=by simp[S09.cL,d]
            have f:=zC g;clear g d;subst N;go_wp2;go_roundw
            case rel=>exact⟨2,by omega,by go_num,by rw[f.out],by rw[f.out];exact x⟩
            case measure=>simp[intOf]
           ·have d:S09.ok T O 1=true:=by rw[A.out 1 om];simp;omega
            have g:S09.cL T O a 2=S09.cL T O a 1+1:=by simp[S09.cL,d]
            have f:=zC g;clear g;have o:=Hv.out T O 1 _ u m om d (j▸x);have ai:¬(O:Int)=0:=by omega
            rw[←j]at o;have i:=zC o;clear o;have E:=zC j;clear j;have ah:S09.cL T O a 1≤300:=by omega
            generalize S09.cL T O a 1=c0 at *;cases hg:r T O 1 with
            | false=>
              rw[hg]at i;have R:=zC hg;clear hg;go_wp2_with fail;refine i.out.mono ?_;rintro e M ⟨rfl,n⟩;go_wp2;go_returns;exact⟨rfl,.inr ⟨T,O,1,u,m,by omega,d,R.out,by rw[←E.out];exact n⟩⟩
            | true=>
              rw[hg]at i;clear hg;go_wp2_with fail;refine i.out.mono ?_;rintro e M ⟨rfl,n⟩;go_wp2;go_roundw
              case rel=>exact⟨2,by omega,by go_num,by rw[f.out];go_num,by rw[f.out];exact n⟩
              case measure=>simp[intOf]
      ·obtain rfl:O=T+1:=by omega
       go_wp2;go_roundw
       case rel=>exact⟨T+1,by omega,by omega,by go_num,rfl,C⟩
       case measure=>simp[intOf];omega
    ·obtain rfl:T=31:=by omega
     go_wp2;go_returns;exact⟨rfl,.inl (by rw[S09.cT_all]at Q;exact Q)⟩
theorem enterLook(args:Array Value)(w:World):(callFunc 120 args).run Tryz.prog w = .ok (.enter 120 args) w:=by kernel_rfl
theorem enterRank(args:Array Value)(w:World):(callFunc 196 args).run Tryz.prog w = .ok (.enter 196 args) w:=by kernel_rfl
theorem enterCount(args:Array Value)(w:World):(callFunc 117 args).run Tryz.prog w = .ok (.enter 117 args) w:=by kernel_rfl
def zcO(z o l:Int):List Value:=[.int .i64 z,.int .i64 o,.int .i64 l]
theorem lookHit09(s z o l n u D:Int)(f:Bool)(g a c B:Nat)(w:World)(j:Blk w g [s] 3)(b:Blk w a (zcO n u D) 170)(d:Blk w c [.bool f] 4)
 (m:B≤a) (q:B≤c) (I:B≤w.heap.size) (k:¬g=a) (p:¬g=c) (h:¬a=c) :
 Calls Tryz.prog 120 #[s,S09.hist z o l,.pointer (some ⟨g,0,none⟩),.pointer (some ⟨a,0,none⟩),.pointer (some ⟨c,0,none⟩)] w fun e i=>
  e = .returned (.bool false)∧Blk i g [s] 3∧Blk i a (zcO z o l) 170∧Blk i c [.bool true] 4∧Below B w i:=by
 have v:=j.cell 0;have t:=b.cell 0;have r:=b.cell 1;have C:=b.cell 2;have y:=d.cell 0;have L:=b.free 0;have K:=b.free 1;have F:=b.free 2;have M:=d.free 0;have H:=j.lt;have J:=b.lt;have G:=d.lt;simp only[zcO,lgz,lgs]at v t r C y;obtain⟨E,x,A⟩:=zh3 j b d;clear j b d;go_enter Tryz.func120,Tryz.ntmps120;go_wp2;go_returns
 exact⟨rfl,((((E.out.other a 0 _ k).other a 1 _ k).other a 2 _ k).other c 0 _ p).alloc _,((((x.out.set 0 _).set 1 _).set 2 _).other c 0 _ h).alloc _,((((A.out.other a 0 _ (Ne.symm h)).other a 1 _ (Ne.symm h)).other a 2 _ (Ne.symm h)).set 0 _).alloc _,
  ((((((zJ _ _).setCell m _).setCell m _).setCell m _).setCell q _)).alloc by7 _⟩
theorem lookMiss09(n s z o l j k m:Int)(f:Bool)(g c b B:Nat)(w:World)(i:Blk w g [s] 3)(a:Blk w c (zcO j k m) 170)(d:Blk w b [.bool f] 4)
 (N:B≤c) (H:B≤b) (r:B≤w.heap.size) (E:¬g=c) (D:¬g=b) (C:¬c=b) (M:((n:Int)==s)=false) :
 Calls Tryz.prog 120 #[n,S09.hist z o l,.pointer (some ⟨g,0,none⟩),.pointer (some ⟨c,0,none⟩),.pointer (some ⟨b,0,none⟩)] w fun e h=>
  e = .returned (.bool !f)∧Blk h g [s] 3∧Blk h c (zcO j k m) 170∧Blk h b [.bool f] 4∧Below B w h:=by
 have t:=i.cell 0;have q:=a.cell 0;have p:=a.cell 1;have y:=a.cell 2;have v:=d.cell 0;have L:=a.free 0;have K:=a.free 1;have F:=a.free 2;have O:=d.free 0;have I:=i.lt;have J:=a.lt;have G:=d.lt;simp only[zcO,lgz,lgs]at t q p y v;obtain⟨A,u,x⟩:=zh3 i a d;clear i a d;go_enter Tryz.func120,Tryz.ntmps120;go_wp2;go_returns;exact⟨rfl,A.out.alloc _,u.out.alloc _,x.out.alloc _,(zJ _ _).alloc r _⟩
def LookInv(W:World)(B:Nat)(s:Int)(bs bo bf:Nat)(k:Nat)(w:World):Prop:=
 Blk w bs [s] 3∧Blk w bo (if 0≤s∧s<k then zcO (S09.hz s) (S09.ho s) (S09.hl s)else zcO 0 0 0) 170∧Blk w bf [.bool (decide (0≤s∧s<k))] 4∧Below B W w
theorem S09.at_cnt{t o l:Nat}(b:t≤30)(c:o≤t)(d:l<2)(h:S09.ok t o l=true) :
 S09.hz (S09.cnt t o l)=(t:Int)-o∧S09.ho (S09.cnt t o l)=o∧S09.hl (S09.cnt t o l)=l:=by
 obtain⟨f,a⟩:=S09.at_place b c d h;have e:S09.found (S09.cnt t o l)=true:=zO om;simp[S09.hz,S09.ho,S09.hl,e,a]
theorem lookVisits09(W:World)(B:Nat)(s:Int)(c b a:Nat)(C:B≤b)(v:B≤a)(H:B≤W.heap.size)(u:¬c=b)(r:¬c=a)(q:¬b=a) :
 S09.Visits 120 #[.pointer (some ⟨c,0,none⟩),.pointer (some ⟨b,0,none⟩),.pointer (some ⟨a,0,none⟩)] (LookInv W B s c b a) (fun t o l=> !decide (0≤s∧s<(S09.cnt t o l+1:Nat))):=by
 intro t o l w N L P O ⟨y,d,D,k⟩;obtain⟨G,J,F⟩:=S09.at_cnt N L P O;have x:B≤w.heap.size:=yD H k.size;by_cases A:(S09.cnt t o l:Int)=s
 ·subst A;rw[zG om]at d;refine(lookHit09 (S09.cnt t o l) ((t:Int)-o) o l _ _ _ _ c b a B w y d D C v x u r q).mono ?_;rintro e K ⟨rfl,h,m,g,j⟩;refine⟨by simp;omega,h,?_,?_,k.trans j⟩
  ·rw[zQ om,G,J,F];exact m
  ·rw[zO om];exact g
 ·have I:(((S09.cnt t o l:Nat):Int)==s)=false:=by simpa using A
  have p:decide (0≤s∧s<((S09.cnt t o l+1:Nat):Int))=decide (0≤s∧s<((S09.cnt t o l:Nat):Int)):=by
   rw[decide_eq_decide];omega
  have E:(if 0≤s∧s<((S09.cnt t o l+1:Nat):Int)then zcO (S09.hz s) (S09.ho s) (S09.hl s)else zcO 0 0 0)=(if 0≤s∧s<((S09.cnt t o l:Nat):Int)then zcO (S09.hz s) (S09.ho s) (S09.hl s)else zcO 0 0 0):=by
   by_cases z:0≤s∧s<((S09.cnt t o l:Nat):Int)
   ·rw[zQ z,zQ om]
   ·rw[zG z,zG om]
  obtain⟨f,i,n,M⟩:∃f i n,(if 0≤s∧s<((S09.cnt t o l:Nat):Int)then zcO (S09.hz s) (S09.ho s) (S09.hl s)else zcO 0 0 0)=zcO f i n:=by
   split
   ·exact⟨_,_,_,rfl⟩
   ·exact⟨_,_,_,rfl⟩
  rw[M]at d E;refine(lookMiss09 (S09.cnt t o l) s ((t:Int)-o) o l f i n _ c b a B w y d D C v x u r q I).mono ?_;rintro e K ⟨rfl,h,m,g,j⟩;refine⟨?_,h,?_,?_,k.trans j⟩
  ·simp only[p]
  ·rw[E];exact m
  ·rw[p];exact g
theorem lookEnd09{W w':World}{B:Nat}{s:Int}{k g f:Nat}(h:S09.Visited (LookInv W B s k g f) (fun t o l=> !decide (0≤s∧s<(S09.cnt t o l+1:Nat))) w') :
 Blk w' g (zcO (S09.hz s) (S09.ho s) (S09.hl s)) 170∧Blk w' f [.bool (S09.found s)] 4∧Below B W w':=by
 rcases h with⟨_,a,b,c⟩|⟨t,o,l,m,i,q,n,p,_,a,b,c⟩
 ·refine⟨?_,b,c⟩;split at a
  ·exact a
  ·rename_i j
   have d:S09.found s=false:=zL (by simpa using j);simp only[S09.hz,S09.ho,S09.hl,d];exact a
 ·have r:=S09.cnt_lt m i q n;simp at p;have e:0≤s∧s<((S09.cnt t o l+1:Nat):Int):=by omega
  rw[zQ e]at a;rw[zO e]at b;have d:S09.found s=true:=zO om;rw[d];exact⟨a,b,c⟩
theorem ztA(s:Int)(w:World) :
 Calls Tryz.prog 108 #[s] w fun e A=>e = .returned (.tuple #[S09.hist (S09.hz s) (S09.ho s) (S09.hl s),.bool (S09.found s)])∧Below w w A:=by
 have j:LookInv ((((w.alloc (Obj.cells #[s] 3)).alloc (Obj.cells #[.int .i64 0,.int .i64 0,.int .i64 0] 170)).alloc (Obj.cells #[.int .i64 0,.int .i64 0,.int .i64 0] 170)).alloc (Obj.cells #[.bool false] 4))
  (w.heap.size+1+1) s w.heap.size (w.heap.size+1+1) (w.heap.size+1+1+1) 0 ((((w.alloc (Obj.cells #[s] 3)).alloc (Obj.cells #[.int .i64 0,.int .i64 0,.int .i64 0] 170)).alloc (Obj.cells #[.int .i64 0,.int .i64 0,.int .i64 0] 170)).alloc (Obj.cells #[.bool false] 4)):=by
  refine⟨(((Blk.new w [s] _).alloc _).alloc _).alloc _,?_,?_,zJ _ _⟩
  ·rw[zG om];have:=(Blk.new ((w.alloc (Obj.cells #[s] 3)).alloc (Obj.cells #[.int .i64 0,.int .i64 0,.int .i64 0] 170)) (zcO 0 0 0) 170).alloc (Obj.cells #[.bool false] 4);simpa[zcO] using this
  ·have:=Blk.new (((w.alloc (Obj.cells #[s] 3)).alloc (Obj.cells #[.int .i64 0,.int .i64 0,.int .i64 0] 170)).alloc (Obj.cells #[.int .i64 0,.int .i64 0,.int .i64 0] 170)) [.bool false] 4;rw[zL om];simpa using this
 have l:=zmW 120 enterLook _ _ _ ?hst (lookVisits09 _ (w.heap.size+1+1) s w.heap.size (w.heap.size+1+1) (w.heap.size+1+1+1) (zF _) om by1 om om om) _ j
 case hst=>
  rintro k b I ⟨g,h,C,n⟩ d;exact⟨g.step d,h.step d,C.step d,n.trans (d.mono (yD by1 n.size))⟩
 have p:=zC l;clear l j;go_enter Tryz.func108,Tryz.ntmps108;go_wp2_with fail;refine p.out.mono ?_;rintro e b ⟨rfl,m⟩;obtain⟨c,o,f⟩:=lookEnd09 m;have G:w.heap.size+4≤b.heap.size:=by have:=f.size;simp at this;omega
 have a:Blk b (w.heap.size+1) (zcO 0 0 0) 170:=by
  have q:=((Blk.new (w.alloc (Obj.cells #[s] 3)) (zcO 0 0 0) 170).alloc (Obj.cells #[.int .i64 0,.int .i64 0,.int .i64 0] 170)).alloc (Obj.cells #[.bool false] 4);have:=q.below f by1;simpa using this
 have y:=c.cell 0;have u:=c.cell 1;have t:=c.cell 2;have E:=o.cell 0;have D:=a.cell 0;have B:=a.cell 1;have x:=a.cell 2;have J:=a.free 0;have F:=a.free 1;have H:=a.free 2;simp only[zcO,lgz,lgs]at y u t E D B x;have z:Below w w b:=(by go_grown:Below w w _).trans (f.mono om);clear c o m f;have i:=zC a;clear a;go_wp2
 go_region
 go_wp2;have r:(b.setCell ⟨w.heap.size+1,0,none⟩ (.int .i64 (S09.hz s))).cell? ⟨w.heap.size+1,0,none⟩=some (.int .i64 (S09.hz s)):=(i.out.set 0 _).cell 0;have g:((b.setCell ⟨w.heap.size+1,0,none⟩ (.int .i64 (S09.hz s))).setCell ⟨w.heap.size+1,1,none⟩ (.int .i64 (S09.ho s))).cell? ⟨w.heap.size+1,1,none⟩=some (.int .i64 (S09.ho s)):=((i.out.set 0 _).set 1 _).cell 1;have h:(((b.setCell ⟨w.heap.size+1,0,none⟩ (.int .i64 (S09.hz s))).setCell ⟨w.heap.size+1,1,none⟩ (.int .i64 (S09.ho s))).setCell ⟨w.heap.size+1,2,none⟩ (.int .i64 (S09.hl s))).cell? ⟨w.heap.size+1,2,none⟩=some (.int .i64 (S09.hl s)):=(((i.out.set 0 _).set 1 _).set 2 _).cell 2;refine bodyPost_ret (v:=.tuple #[S09.hist (S09.hz s) (S09.ho s) (S09.hl s),.bool (S09.found s)]) (by simp[results,Tryz.results108,go_sem,r,g,h]) rfl ⟨rfl,?_⟩;exact((((z.setCell by1 _).setCell by1 _).setCell by1 _)).drew
theorem countVisit09(n z o l:Int)(c:Nat)(b B:Nat)(w:World)(a:Blk w b [c] 3)(h:B≤b)(j:B≤w.heap.size)(k:c≤1000) :
 Calls Tryz.prog 117 #[n,S09.hist z o l,.pointer (some ⟨b,0,none⟩)] w fun e d=>
  e = .returned (.bool true)∧Blk d b [.int .i64 (c+1:Nat)] 3∧Below B w d:=by
 have f:=a.cell 0;have m:=a.free 0;have i:=a.lt;simp only[lgz]at f;have g:=zC a;clear a;go_enter Tryz.func117,Tryz.ntmps117;go_wp2;go_returns;exact⟨rfl,((g.out.set 0 _).alloc _),((zJ _ _).setCell h _).alloc by7 _⟩
def zvB(W:World)(B bc:Nat)(k:Nat)(w:World):Prop:=k≤500∧Blk w bc [k] 3∧Below B W w
theorem zuT(W:World)(B a:Nat)(m:B≤a)(c:B≤W.heap.size) :
 S09.Visits 117 #[.pointer (some ⟨a,0,none⟩)] (zvB W B a) (fun _ _ _=>true):=by
 intro t o l w i g k j ⟨p,h,b⟩;have:=S09.cnt_lt i g k j;refine(countVisit09 (S09.cnt t o l) ((t:Int)-o) o l (S09.cnt t o l) a B w h m (yD c b.size) om).mono ?_;rintro e n ⟨rfl,d,f⟩;exact⟨rfl,by omega,d,b.trans f⟩
theorem zhI(w:World) :
 Calls Tryz.prog 102 #[] w fun e l=>e = .returned (.int .i64 215)∧Below w w l:=by
 have d:zvB (w.alloc (Obj.cells #[.int .i64 0] 3)) w.heap.size w.heap.size 0 (w.alloc (Obj.cells #[.int .i64 0] 3)):=
  ⟨by omega,Blk.new w [.int .i64 0] _,zJ _ _⟩
 have i:=zmW 117 enterCount _ _ _ ?hst (zuT _ w.heap.size w.heap.size (zF _) by1) _ d
 case hst=>
  rintro k b q ⟨p,o,g⟩ f;exact⟨p,o.step f,g.trans (f.mono (yD by1 g.size))⟩
 have n:=zC i;clear i d;go_enter Tryz.func102,Tryz.ntmps102;go_wp2_with fail;refine n.out.mono ?_;rintro e b ⟨rfl,c⟩;have a:zvB (w.alloc (Obj.cells #[.int .i64 0] 3)) w.heap.size w.heap.size 215 b:=by
  rcases c with h|⟨_,_,_,_,_,_,_,h,_⟩
  ·exact h
  ·cases h
 have m:=a.2.1.cell 0;simp only[lgz]at m;have j:Below w w b:=(by go_grown:Below w w _).trans a.2.2;clear c a;exact mf1 j
theorem S09.is_place{z o l:Int}(h:S09.is z o l=true):∃a b c:Nat,a≤30∧b≤a∧c<2∧z=(a:Int)-b∧o=b∧l=c∧S09.ok a b c=true∧S09.idx z o l=S09.cnt a b c:=by
 have j:=h;have i:S09.idx z o l=S09.cnt (z+o).toNat o.toNat l.toNat:=by simp[S09.idx,h]
 simp only[S09.is,zS]at h;obtain⟨f,d⟩:=h;have g:=zbE f;have r:z+o≤30:=by
  have q:=g.2.2.1;have e:=g.2.2.2;unfold S09.bound at e
  (repeat' split at e)<;>omega
 have m:l=0∨l=1:=by
  split at d
  ·simp at d;omega
  ·simp at d;omega
 obtain⟨s,k,p,n⟩:=S09.rallowed_bounds f;refine⟨(z+o).toNat,o.toNat,l.toNat,by omega,by omega,by omega,by omega,by omega,by omega,?_,i⟩;unfold S09.ok;rw[show(((z+o).toNat:Nat):Int)-o.toNat=z by omega,show((o.toNat:Nat):Int)=o by omega,show((l.toNat:Nat):Int)=l by omega];exact j
theorem S09.place_inj{t o l t' o' l':Nat}(c:t≤30)(d:o≤t)(f:l<2)(h:S09.ok t o l=true)(j:t'≤30)(k:o'≤t')(i:l'<2)(g:S09.ok t' o' l'=true)
 (e:S09.cnt t o l=S09.cnt t' o' l'):t=t'∧o=o'∧l=l':=by
 have a:=(S09.at_place c d f h).2;have b:=(S09.at_place j k i g).2;rw[e,b]at a;cases a;exact⟨rfl,rfl,rfl⟩
theorem S09.cL_mono(t o b:Nat):∀l,b≤S09.cL t o b l
 | 0=>zF _
 | l+1=>by have:=S09.cL_mono t o b l;simp only[S09.cL];omega
theorem S09.cL_two(t o b l:Nat)(a:l<2):S09.cL t o b l≤S09.cL t o b 2:=by
 rcases(show l=0∨l=1 by omega)with rfl|rfl
 ·simp only[S09.cL];omega
 ·simp only[S09.cL];omega
theorem S09.cO_mono(t b:Nat):∀{o a:Nat},o≤a→S09.cO t b o≤S09.cO t b a:=by
 intro o a h;induction a with
 | zero=>obtain rfl:o=0:=by omega
         exact zF _
 | succ a d=>
   by_cases c:o=a+1
   ·subst c;exact zF _
   ·have:=d om;have:=S09.cL_mono t a (S09.cO t b a) 2;simp only[S09.cO];omega
theorem S09.cT_mono:∀{t a:Nat},t≤a→S09.cT t≤S09.cT a:=by
 intro t a h;induction a with
 | zero=>obtain rfl:t=0:=by omega
         exact zF _
 | succ a c=>
   by_cases b:t=a+1
   ·subst b;exact zF _
   ·have:=c om;have e:=S09.cO_mono a (S09.cT a) (zfY (a+1));have d:S09.cO a (S09.cT a) 0=S09.cT a:=rfl;have f:S09.cT (a+1)=S09.cO a (S09.cT a) (a+1):=rfl;omega
theorem S09.cnt_total{t o l t' o' l':Nat}(g:t<t')(e:o≤t)(a:l<2):S09.cnt t o l≤S09.cnt t' o' l':=by
 have i:S09.cnt t o l≤S09.cO t (S09.cT t) (o+1):=S09.cL_two _ _ _ _ a;have b:=S09.cO_mono t (S09.cT t) (show o+1≤t+1 by omega);have f:S09.cT (t+1)=S09.cO t (S09.cT t) (t+1):=rfl;have d:=S09.cT_mono (show t+1≤t' by omega);have h:=S09.cO_mono t' (S09.cT t') (zfY o');have c:S09.cO t' (S09.cT t') 0=S09.cT t':=rfl;have j:S09.cO t' (S09.cT t') o'≤S09.cnt t' o' l':=S09.cL_mono _ _ _ _;omega
theorem rankHit09(n z o l u:Int)(f:Bool)(d a b B:Nat)(w:World)(c:Blk w d (zcO z o l) 170)(h:Blk w a [u] 3)(g:Blk w b [.bool f] 4)
 (y:B≤a) (p:B≤b) (F:B≤w.heap.size) (m:¬d=a) (k:¬d=b) (j:¬a=b) :
 Calls Tryz.prog 196 #[n,S09.hist z o l,.pointer (some ⟨d,0,none⟩),.pointer (some ⟨a,0,none⟩),.pointer (some ⟨b,0,none⟩)] w fun e i=>
  e = .returned (.bool false)∧Blk i d (zcO z o l) 170∧Blk i a [n] 3∧Blk i b [.bool true] 4∧Below B w i:=by
 have s:=h.cell 0;have r:=c.cell 0;have q:=c.cell 1;have x:=c.cell 2;have t:=g.cell 0;have H:=h.free 0;have I:=g.free 0;have E:=h.lt;have G:=c.lt;have D:=g.lt;simp only[zcO,lgz,lgs]at s r q x t;obtain⟨C,A,v⟩:=zh3 h c g;clear h c g;go_enter Tryz.func196,Tryz.ntmps196;go_wp2;go_returns;exact⟨rfl,((A.out.other a 0 _ m).other b 0 _ k).alloc _,((C.out.set 0 _).other b 0 _ j).alloc _,((v.out.other a 0 _ (Ne.symm j)).set 0 _).alloc _,(((zJ _ _).setCell y _).setCell p _).alloc by7 _⟩
theorem rankMiss09(n z o l b c m q:Int)(f:Bool)(i j k B:Nat)(w:World)(a:Blk w i (zcO b c m) 170)(h:Blk w j [q] 3)(d:Blk w k [.bool f] 4)
 (p:B≤w.heap.size) (N:¬(z=b∧o=c∧l=m)) (E:0≤z) (L:z≤100) (M:0≤o) (H:o≤100) (C:0≤b) (J:b≤100) (K:0≤c) (I:c≤100) :
 Calls Tryz.prog 196 #[n,S09.hist z o l,.pointer (some ⟨i,0,none⟩),.pointer (some ⟨j,0,none⟩),.pointer (some ⟨k,0,none⟩)] w fun e g=>
  e = .returned (.bool (!f&&decide (z+o≤b+c)))∧Blk g i (zcO b c m) 170∧Blk g j [q] 3∧Blk g k [.bool f] 4∧Below B w g:=by
 have x:=h.cell 0;have v:=a.cell 0;have u:=a.cell 1;have A:=a.cell 2;have y:=d.cell 0;have F:=h.lt;have G:=a.lt;have D:=d.lt;simp only[zcO,lgz,lgs]at x v u A y;obtain⟨t,s,r⟩:=zh3 h a d;clear h a d;cases f with
 | true=>
   go_enter Tryz.func196,Tryz.ntmps196;go_wp2;all_goals (go_returns;exact⟨zaA (by first|rfl|(simp;done)|(simp;omega)),s.out.alloc _,t.out.alloc _,r.out.alloc _,(zJ _ _).alloc p _⟩)
 | false=>
   go_enter Tryz.func196,Tryz.ntmps196;go_wp2;all_goals (go_returns;exact⟨zaA (by first|rfl|(simp;done)|(simp;omega)),s.out.alloc _,t.out.alloc _,r.out.alloc _,(zJ _ _).alloc p _⟩)
def zuZ(W:World)(B:Nat)(z o l:Int)(bw bs bf:Nat)(k:Nat)(w:World):Prop:=
 Blk w bw (zcO z o l) 170∧Blk w bs [.int .i64 (if S09.is z o l=true∧S09.idx z o l<k then S09.idx z o l else 0)] 3∧Blk w bf [.bool (decide (S09.is z o l=true∧S09.idx z o l<k))] 4∧Below B W w
theorem rankVisits09(W:World)(B:Nat)(z o l:Int)(g d c:Nat)(h1:B≤d)(N:B≤c)(O:B≤W.heap.size)(K:¬g=d)(I:¬g=c)(G:¬d=c)(H:0≤z)(U:z≤100)(V:0≤o)(R:o≤100) :
 S09.Visits 196 #[.pointer (some ⟨g,0,none⟩),.pointer (some ⟨d,0,none⟩),.pointer (some ⟨c,0,none⟩)] (zuZ W B z o l g d c)
  (fun t a b=> !decide (S09.is z o l=true∧S09.idx z o l<(S09.cnt t a b+1:Nat))&&decide ((t:Int)≤z+o)):=by
 intro t a b w Z T hl E ⟨x,D,A,p⟩;have C:B≤w.heap.size:=yD O p.size;by_cases r:(t:Int)-a=z∧(a:Int)=o∧(b:Int)=l
 ·obtain⟨rfl,rfl,rfl⟩:=r;have v:S09.is ((t:Int)-a) a b=true:=E;have F:S09.idx ((t:Int)-a) a b=S09.cnt t a b:=by
   simp only[S09.idx,v,if_true];rw[show((t:Int)-a+a).toNat=t by omega];simp
  refine(rankHit09 (S09.cnt t a b) ((t:Int)-a) a b _ _ g d c B w x D A h1 N C K I G).mono ?_;rintro e S ⟨rfl,q,f,k,n⟩;have m:S09.is ((t:Int)-a) a b=true∧S09.idx ((t:Int)-a) a b<((S09.cnt t a b+1:Nat):Int):=⟨v,by rw[F];omega⟩;refine⟨by simp only[zO m];rfl,q,?_,?_,p.trans n⟩
  ·rw[zQ m,F];exact f
  ·rw[zO m];exact k
 ·have s:(S09.is z o l=true∧S09.idx z o l<((S09.cnt t a b+1:Nat):Int))↔(S09.is z o l=true∧S09.idx z o l<((S09.cnt t a b:Nat):Int)):=by
   constructor
   ·rintro⟨j,y⟩;refine⟨j,?_⟩;obtain⟨M,J,P,k1,Q,X,rfl,rfl,rfl,Y,L⟩:=S09.is_place j;rw[L]at y⊢
    have aa:S09.cnt M J P≠S09.cnt t a b:=fun e=>by
     obtain⟨rfl,rfl,rfl⟩:=S09.place_inj k1 Q X Y Z T hl E e;exact r ⟨rfl,rfl,rfl⟩
    omega
   ·rintro⟨j,y⟩;exact⟨j,by omega⟩
  have u:decide (S09.is z o l=true∧S09.idx z o l<((S09.cnt t a b+1:Nat):Int))=decide (S09.is z o l=true∧S09.idx z o l<((S09.cnt t a b:Nat):Int)):=by rw[decide_eq_decide];exact s
  refine(rankMiss09 (S09.cnt t a b) ((t:Int)-a) a b z o l _ _ g d c B w x D A C r om om om om H U V R).mono ?_;rintro e S ⟨rfl,q,f,k,n⟩;refine⟨?_,q,?_,?_,p.trans n⟩
  ·simp only[u];rw[show(t:Int)-a+a=t by omega]
  ·by_cases i:S09.is z o l=true∧S09.idx z o l<((S09.cnt t a b:Nat):Int)
   ·rw[zQ (s.2 i)];rw[zQ i]at f;exact f
   ·rw[zG (fun h=>i (s.1 h))];rw[zG i]at f;exact f
  ·rw[u];exact k
theorem rankEnd09{W w':World}{B:Nat}{z o l:Int}{q f g:Nat}
 (h:S09.Visited (zuZ W B z o l q f g) (fun t o' l'=> !decide (S09.is z o l=true∧S09.idx z o l<(S09.cnt t o' l'+1:Nat))&&decide ((t:Int)≤z+o)) w') :
 Blk w' f [(S09.idx z o l)] 3∧Blk w' g [.bool (S09.is z o l)] 4∧Below B W w':=by
 obtain⟨k,u,y,c,b,x⟩:∃k:Nat,(S09.is z o l=true→S09.idx z o l<(k:Int))∧zuZ W B z o l q f g k w':=by
  rcases h with h|⟨t,o',l',C,A,E,D,i,h⟩
  ·refine⟨215,fun a=> ?_,h⟩;obtain⟨m,j,p,s,d,e,rfl,rfl,rfl,r,v⟩:=S09.is_place a;have:=S09.cnt_lt s d e r;omega
  ·refine⟨_,fun a=> ?_,h⟩;by_cases n:S09.idx z o l<((S09.cnt t o' l'+1:Nat):Int)
   ·exact n
   ·have w:decide (S09.is z o l=true∧S09.idx z o l<((S09.cnt t o' l'+1:Nat):Int))=false:=zL (fun h=>n h.2);simp only[w,Bool.not_false,zaP]at i;have i:=of_decide_eq_false i;obtain⟨m,j,p,s,d,e,rfl,rfl,rfl,r,v⟩:=S09.is_place a;have:=S09.cnt_total (t:=m) (o:=j) (l:=p) (t':=t) (o':=o') (l':=l') om d e;omega
 refine⟨?_,?_,x⟩
 ·cases a:S09.is z o l with
  | true=>rw[zQ ⟨a,u a⟩]at c;exact c
  | false=>
    rw[zG (by simp[a])]at c;simp only[S09.idx,a];exact c
 ·cases a:S09.is z o l with
  | true=>rw[zO ⟨a,u a⟩]at b;exact b
  | false=>rw[zL (by simp[a])]at b;exact b
theorem zsS(z o l:Int)(w:World)(s:0≤z)(H:z≤100)(I:0≤o)(F:o≤100) :
 Calls Tryz.prog 194 #[S09.hist z o l] w fun e G=>e = .returned (.tuple #[(S09.idx z o l),.bool (S09.is z o l)])∧Below w w G:=by
 obtain⟨W,a⟩:∃W,W=(((w.alloc (Obj.cells #[z,o,l] 170)).alloc (Obj.cells #[.int .i64 0] 3)).alloc (Obj.cells #[.bool false] 4)):=⟨_,rfl⟩;have j:W.heap.size=w.heap.size+3:=by rw[a];simp
 have p:Below w w W:=by rw[a];go_grown
 have f:zuZ W (w.heap.size+1) z o l w.heap.size (w.heap.size+1) (w.heap.size+1+1) 0 W:=by
  rw[a];refine⟨((Blk.new w (zcO z o l) _).alloc _).alloc _,?_,?_,zJ _ _⟩
  ·have:¬(S09.is z o l=true∧S09.idx z o l<((0:Nat):Int)):=by
    rintro⟨d,A⟩;obtain⟨x,t,B,P,D,K,rfl,rfl,rfl,M,v⟩:=S09.is_place d;omega
   rw[zG this];have:=(Blk.new (w.alloc (Obj.cells #[z,o,l] 170)) [.int .i64 0] 3).alloc (Obj.cells #[.bool false] 4);simpa using this
  ·have:¬(S09.is z o l=true∧S09.idx z o l<((0:Nat):Int)):=by
    rintro⟨d,A⟩;obtain⟨x,t,B,P,D,K,rfl,rfl,rfl,M,v⟩:=S09.is_place d;omega
   rw[zL this];have:=Blk.new ((w.alloc (Obj.cells #[z,o,l] 170)).alloc (Obj.cells #[.int .i64 0] 3)) [.bool false] 4;simpa using this
 have i:=zmW 196 enterRank _ _ _ ?hst (rankVisits09 W (w.heap.size+1) z o l w.heap.size (w.heap.size+1) (w.heap.size+1+1) (zF _) om om om om om s H I F) _ f
 case hst=>
  rintro k h Q ⟨u,J,L,m⟩ b;exact⟨u.step b,J.step b,L.step b,m.trans (b.mono (yD om m.size))⟩
 have g:=zC i;rw[a]at g;clear i f;obtain⟨R,N,O⟩:=zh3 j p a;clear j p a;go_enter Tryz.func194,Tryz.ntmps194;go_wp2_with fail;refine g.out.mono ?_;rintro e h ⟨rfl,n⟩;obtain⟨q,r,c⟩:=rankEnd09 n;rw[←O.out]at c;have C:=q.cell 0;have y:=r.cell 0;simp only[lgz]at C y;have E:Below w w h:=N.out.trans (c.mono om);clear n c q r;go_wp2
 go_region
 all_goals go_wp2
 all_goals go_returns
 all_goals exact⟨rfl,E.drew⟩
theorem zbW(n:Nat)(B:n≤60)(w:World):Calls Tryz.prog 69 #[n] w fun e q=>e = .returned (.int .i64 ((2^n:Nat):Int))∧Below w w q:=by
 obtain⟨p,a⟩:∃p:Nat→Nat,p=fun k=>2^k:=⟨_,rfl⟩;have j:p 0=1:=by rw[a]
 have c:2^n=p n:=by rw[a]
 have b:∀k,p (k+1)=2*p k:=fun k=>by rw[a];show 2^(k+1)=2*2^k;rw[Nat.pow_succ];omega
 have f:∀k,k≤60→p k≤1152921504606846976:=fun k l=>by rw[a];exact zcP (n:=2) om l
 rw[c];obtain⟨r,v,o⟩:=zh3 j b f;clear a c j b f;go_enter Tryz.func69,Tryz.ntmps69;go_wp2
 go_loopw [3,4] (fun t i wr=>∃k:Nat,k≤n∧t = .int .i64 (p k:Int)∧i = .int .i64 (k:Int)∧Below w w wr)
  (fun _ i _=>n-(intOf i).toNat)
 case atStart=>exact⟨0,by omega,by rw[r.out];rfl,rfl,zJ _ _⟩
 case round=>
  obtain⟨k,l,rfl,rfl,g⟩:=hrel;by_cases y:k<n
  ·have d:=v.out k;have A:=o.out k om;generalize p k=m at *;generalize h:p (k+1)=z at *;obtain⟨u,s⟩:=zh2 h d;have x:wrap64 (2*(m:Int))=2*(m:Int):=IntWalk.wrap64_in _ ⟨by omega,by omega⟩;clear h d;go_wp2;go_roundw
   case rel=>exact⟨k+1,by omega,by rw[u.out,s.out];simp,by simp,g⟩
   case measure=>simp[intOf];omega
  ·obtain rfl:k=n:=by omega
   exact mf1 g
