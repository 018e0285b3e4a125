/- A part of the proof that ends in L14p (W09a, W09b, W09c, W09d, W09e, W09f). No condition. -/
import Derived.Below
import Derived.Deep.Light
import Derived.Deep.MidRow
import Derived.Handy
import Derived.Lib.Hide
import Derived.Orders
import Derived.OrdersHeld
import Derived.Tactics
import Derived.Test.YtieeogndnhighaaGreatRows
import Derived.WalkKit
import Derived.WalkLawsBesides
import Derived.WalkSpells
import Derived.Test.YtieeogndnhighaaGreatZL14pac
import Derived.Test.YtieeogndnhighaaGreatZL14pad
set_option linter.unusedSectionVars false
set_option linter.unusedSimpArgs false
set_option linter.unusedVariables false
set_option maxRecDepth 100000
set_option maxHeartbeats 2000000
namespace Go.Proofs.YtieeogndnhighaaGreat
open Go.RowKit
theorem zgC(n:Int)(w:World):Calls Tryz.prog 154 #[.int .i64 n] w fun e w'=>e = .returned (.int .i64 (S09.bound n (-1)))∧Below w.heap.size w w':=by
 by_cases hin:n=0∨n=1∨n=2∨n=3∨n=4∨n=5
 ·rcases hin with rfl|rfl|rfl|rfl|rfl|rfl;all_goals (go_enter Tryz.func154,Tryz.ntmps154;go_wp2;go_returns;exact⟨rfl,by go_grown⟩)
 ·have h0:¬n=0:=by omega
  have h1:¬n=1:=by omega
  have h2:¬n=2:=by omega
  have h3:¬n=3:=by omega
  have h4:¬n=4:=by omega
  have h5:¬n=5:=by omega
  have e:S09.bound n (-1)=(-1):=by unfold S09.bound;rw[zK h0,zK h1,zK h2,zK h3,zK h4,zK h5]
  rw[e];go_enter Tryz.func154,Tryz.ntmps154;go_wp2;go_returns;exact⟨rfl,by go_grown⟩
theorem zdS(n:Int)(w:World):Calls Tryz.prog 127 #[.int .i64 n] w fun e w'=>e = .returned (.int .i64 (S09.bound n 0))∧Below w.heap.size w w':=by
 by_cases hin:n=0∨n=1∨n=2∨n=3∨n=4∨n=5
 ·rcases hin with rfl|rfl|rfl|rfl|rfl|rfl;all_goals (go_enter Tryz.func127,Tryz.ntmps127;go_wp2;go_returns;exact⟨rfl,by go_grown⟩)
 ·have h0:¬n=0:=by omega
  have h1:¬n=1:=by omega
  have h2:¬n=2:=by omega
  have h3:¬n=3:=by omega
  have h4:¬n=4:=by omega
  have h5:¬n=5:=by omega
  have e:S09.bound n 0=0:=by unfold S09.bound;rw[zK h0,zK h1,zK h2,zK h3,zK h4,zK h5]
  rw[e];go_enter Tryz.func127,Tryz.ntmps127;go_wp2;go_returns;exact⟨rfl,by go_grown⟩
theorem zgZ(z o:Int)(w:World):Calls Tryz.prog 153 #[.int .i64 z,.int .i64 o] w fun e w'=>e = .returned (.bool (S09.allowed z o))∧Below w.heap.size w w':=by
 rcases(show z<o∨z=o∨o<z by omega)with h|h|h
 ·have e:S09.allowed z o=decide (o≤S09.bound z (-1)):=by unfold S09.allowed;rw[Int.min_eq_left (by omega),Int.max_eq_right (by omega)]
  have h2:¬o<z:=by omega
  have h3:z≤o:=by omega
  rw[e];go_enter Tryz.func153,Tryz.ntmps153;go_wp2_with fail;refine(zgC _ _).mono ?_;rintro e w1 ⟨rfl,hb1⟩;have hB1:Below w.heap.size w w1:=zA (by go_grown) hb1;go_wp2;go_returns;exact⟨rfl,hB1⟩
 ·subst h;have e:S09.allowed z z=decide (z≤S09.bound z (-1)):=by unfold S09.allowed;rw[Int.min_eq_left (by omega),Int.max_eq_right (by omega)]
  rw[e];go_enter Tryz.func153,Tryz.ntmps153;go_wp2_with fail;refine(zgC _ _).mono ?_;rintro e w1 ⟨rfl,hb1⟩;have hB1:Below w.heap.size w w1:=zA (by go_grown) hb1;go_wp2;go_returns;exact⟨rfl,hB1⟩
 ·have e:S09.allowed z o=decide (z≤S09.bound o (-1)):=by unfold S09.allowed;rw[Int.min_eq_right (by omega),Int.max_eq_left (by omega)]
  have h2:¬z<o:=by omega
  have h3:o≤z:=by omega
  rw[e];go_enter Tryz.func153,Tryz.ntmps153;go_wp2_with fail;refine(zgC _ _).mono ?_;rintro e w1 ⟨rfl,hb1⟩;have hB1:Below w.heap.size w w1:=zA (by go_grown) hb1;go_wp2;go_returns;exact⟨rfl,hB1⟩
theorem zbI(z o:Int)(w:World):Calls Tryz.prog 152 #[.int .i64 z,.int .i64 o] w fun e w'=>e = .returned (.bool (S09.rallowed z o))∧Below w.heap.size w w':=by
 by_cases hz:0≤z
 case neg=>
  have e:S09.rallowed z o=false:=by simp[S09.rallowed,hz]
  rw[e];go_enter Tryz.func152,Tryz.ntmps152;go_wp2;go_returns;exact⟨rfl,by go_grown⟩
 by_cases ho:0≤o
 case neg=>
  have e:S09.rallowed z o=false:=by simp[S09.rallowed,ho]
  rw[e];go_enter Tryz.func152,Tryz.ntmps152;go_wp2;go_returns;exact⟨rfl,by go_grown⟩
 obtain⟨a,b,hmin,hmax⟩:∃a b,min z o=a∧max z o=b:=⟨_,_,rfl,rfl⟩;have hr:S09.rallowed z o=decide (a≤5∧b≤S09.bound a 0):=by simp[S09.rallowed,hz,ho,hmin,hmax]
 rw[hr];have hmm:z<o∧a=z∧b=o∨z=o∧a=z∧b=z∨o<z∧a=o∧b=z:=by omega
 clear hmin hmax hr;by_cases ha:a≤5
 case neg=>
  have e:decide (a≤5∧b≤S09.bound a 0)=false:=by simp[ha]
  rw[e];rcases hmm with⟨h,rfl,rfl⟩|⟨rfl,rfl,rfl⟩|⟨h,rfl,rfl⟩
  all_goals
   go_enter Tryz.func152,Tryz.ntmps152;go_wp2;go_returns;exact⟨rfl,by go_grown⟩
 have e:decide (a≤5∧b≤S09.bound a 0)=decide (b≤S09.bound a 0):=by simp[ha]
 rw[e];rcases hmm with⟨h,rfl,rfl⟩|⟨rfl,rfl,rfl⟩|⟨h,rfl,rfl⟩
 ·have h2:¬b<a:=by omega
  go_enter Tryz.func152,Tryz.ntmps152;go_wp2_with fail;refine(zdS _ _).mono ?_;rintro e w1 ⟨rfl,hb1⟩;have hB1:Below w.heap.size w w1:=zA (by go_grown) hb1;go_wp2;go_returns;exact⟨rfl,hB1⟩
 ·go_enter Tryz.func152,Tryz.ntmps152;go_wp2_with fail;refine(zdS _ _).mono ?_;rintro e w1 ⟨rfl,hb1⟩;have hB1:Below w.heap.size w w1:=zA (by go_grown) hb1;go_wp2;go_returns;exact⟨rfl,hB1⟩
 ·have h2:¬b<a:=by omega
  go_enter Tryz.func152,Tryz.ntmps152;go_wp2_with fail;refine(zdS _ _).mono ?_;rintro e w1 ⟨rfl,hb1⟩;have hB1:Below w.heap.size w w1:=zA (by go_grown) hb1;go_wp2;go_returns;exact⟨rfl,hB1⟩
theorem S09.bound_le(a other:Int)(h:other≤30):S09.bound a other≤30:=by
 unfold S09.bound
 (repeat' split)<;>omega
theorem S09.rallowed_bounds{z o:Int}(h:S09.rallowed z o=true):0≤z∧z≤30∧0≤o∧o≤30:=by
 have h':=of_decide_eq_true h;have:=S09.bound_le (min z o) 0 (by omega);omega
theorem refIs09_any(z o l:Int)(w:World):Calls Tryz.prog 145 #[.int .i64 z,.int .i64 o,.int .i64 l] w fun e w'=>e = .returned (.bool (S09.is z o l))∧Below w.heap.size w w':=by
 cases ha:S09.rallowed z o with
 | false=>
   have e:S09.is z o l=false:=by simp[S09.is,ha]
   rw[e];go_enter Tryz.func145,Tryz.ntmps145;go_wp2_with fail;refine(zbI _ _ _).mono ?_;rw[ha];rintro e w1 ⟨rfl,hb1⟩;have hB1:Below w.heap.size w w1:=zA (by go_grown) hb1;go_wp2;go_returns;exact⟨rfl,hB1⟩
 | true=>
   obtain⟨h0,h1,h2,h3⟩:=S09.rallowed_bounds ha;have hw:IntKind.i64.wrap (z+o)=z+o:=IntWalk.i64_in _ (by omega);by_cases hs:z+o=0
   ·have e:S09.is z o l=decide (l=0):=by simp[S09.is,ha,hs]
    rw[e];go_enter Tryz.func145,Tryz.ntmps145;go_wp2_with fail;refine(zbI _ _ _).mono ?_;rw[ha];rintro e w1 ⟨rfl,hb1⟩;have hB1:Below w.heap.size w w1:=zA (by go_grown) hb1;go_wp2;go_returns;exact⟨yP (by first|rfl|simp),hB1⟩
   ·have e:S09.is z o l=((decide (l=0)&&decide (0<z))||(decide (l=1)&&decide (0<o))):=by simp[S09.is,ha,hs]
    rw[e];by_cases hl0:l=0
    ·subst hl0;go_enter Tryz.func145,Tryz.ntmps145;go_wp2_with fail;refine(zbI _ _ _).mono ?_;rw[ha];rintro e w1 ⟨rfl,hb1⟩;have hB1:Below w.heap.size w w1:=zA (by go_grown) hb1;go_wp2;all_goals (go_returns;exact⟨yP (by first|rfl|simp_all),hB1⟩)
    ·by_cases hl1:l=1
     ·subst hl1;go_enter Tryz.func145,Tryz.ntmps145;go_wp2_with fail;refine(zbI _ _ _).mono ?_;rw[ha];rintro e w1 ⟨rfl,hb1⟩;have hB1:Below w.heap.size w w1:=zA (by go_grown) hb1;go_wp2;all_goals (go_returns;exact⟨yP (by first|rfl|simp_all),hB1⟩)
     ·go_enter Tryz.func145,Tryz.ntmps145;go_wp2_with fail;refine(zbI _ _ _).mono ?_;rw[ha];rintro e w1 ⟨rfl,hb1⟩;have hB1:Below w.heap.size w w1:=zA (by go_grown) hb1;go_wp2;all_goals (go_returns;exact⟨yP (by first|rfl|simp_all),hB1⟩)
abbrev S09.hist(z o l:Int):Value:=.agg #[.int .i64 z,.int .i64 o,.int .i64 l]
def S09.Visited(Inv:Nat→World→Prop)(go:Nat→Nat→Nat→Bool)(w':World):Prop:=
 Inv 215 w'∨∃t o l,t≤30∧o≤t∧l<2∧S09.ok t o l=true∧go t o l=false∧Inv (S09.cnt t o l+1) w'
def S09.Visits(F:FuncId)(caps:Array Value)(Inv:Nat→World→Prop)(go:Nat→Nat→Nat→Bool):Prop:=
 ∀t o l w,t≤30→o≤t→l<2→S09.ok t o l=true→Inv (S09.cnt t o l) w→
  Calls Tryz.prog F (#[.int .i64 (S09.cnt t o l),S09.hist ((t:Int)-o) o l]++caps) w fun e w'=>e = .returned (.bool (go t o l))∧Inv (S09.cnt t o l+1) w'
theorem S09.allowed_nat{t o:Nat}(ho:o≤t)(ht:t≤30):S09.allowed ((t:Int)-o) o=S09.rallowed ((t:Int)-o) o:=by
 have:S09.allPlaces (fun t o _=>S09.allowed ((t:Int)-o) o==S09.rallowed ((t:Int)-o) o)=true:=by decide +kernel
 simpa using S09.allPlaces_spec this ht ho (l:=0) (by omega)
theorem S09.ok_eq{t o l:Nat}(ho:o≤t)(h1:1≤t)(hl:l<2):S09.ok t o l=(S09.rallowed ((t:Int)-o) o&&(decide (l=0∧o<t)||decide (l=1∧0<o))):=by
 unfold S09.ok S09.is;rw[zK (by omega)]
 congr 1
 rcases(show l=0∨l=1 by omega)with rfl|rfl<;>simp<;>omega
theorem S09.cnt_lt{t o l:Nat}(ht:t≤30)(ho:o≤t)(hl:l<2)(h:S09.ok t o l=true):S09.cnt t o l<215:=(S09.at_place ht ho hl h).1
theorem S09.cL_le(t o b:Nat):∀l,S09.cL t o b l≤b+l
 | 0=>zG _
 | l+1=>by have:=S09.cL_le t o b l;simp only[S09.cL];split<;>omega
theorem S09.cO_le(t b:Nat):∀o,S09.cO t b o≤b+2*o
 | 0=>by simp[S09.cO]
 | o+1=>by have:=S09.cO_le t b o;have:=S09.cL_le t o (S09.cO t b o) 2;simp only[S09.cO];omega
theorem S09.cT_small:(List.range 32).all (fun t=>decide (S09.cT t≤215))=true:=by decide +kernel
theorem S09.cT_le{t:Nat}(h:t≤31):S09.cT t≤215:=by
 have:=S09.cT_small;simp only[List.all_eq_true,List.mem_range,yM]at this;exact this t (by omega)
theorem each09_any(F:FuncId)(hF:∀args w,(callFunc F args).run Tryz.prog w = .ok (.enter F args) w)(caps:Array Value)(Inv:Nat→World→Prop)(go:Nat→Nat→Nat→Bool)
 (hst:∀k w w',Inv k w→Below w.heap.size w w'→Inv k w') (hv:S09.Visits F caps Inv go) (w:World) (h0:Inv 0 w) :
 Calls Tryz.prog 147 #[.func (.func F) #[] caps] w fun e w'=>e = .returned (.tuple #[])∧S09.Visited Inv go w':=by
 have hv0:Calls Tryz.prog F (#[.int .i64 0,S09.hist 0 0 0]++caps) w fun e w'=>e = .returned (.bool (go 0 0 0))∧Inv 1 w':=
  hv 0 0 0 w (by omega) (by omega) (by omega) (by decide) h0
 have Hst:=zB hst;have Hv:=zB hv;have Hv0:=zB hv0;clear hv0 hv hst;cases hg0:go 0 0 0 with
 | false=>
   rw[hg0]at Hv0;have Hg0:=zB hg0;clear hg0;go_enter Tryz.func147,Tryz.ntmps147;go_wp2_with fail;refine Hv0.out.mono ?_;rintro e w1 ⟨rfl,hi1⟩;go_wp2;go_returns;exact⟨rfl,.inr ⟨0,0,0,by omega,by omega,by omega,by decide,Hg0.out,hi1⟩⟩
 | true=>
   rw[hg0]at Hv0;clear hg0;go_enter Tryz.func147,Tryz.ntmps147;go_wp2_with fail;refine Hv0.out.mono ?_;rintro e w1 ⟨rfl,hi1⟩;go_wp2;go_loopw [2,3] (fun s t wr=>∃T:Nat,1≤T∧T≤31∧t = .int .i64 T∧s = .int .i64 (S09.cT T)∧Inv (S09.cT T) wr) (fun _ t _=>31-(intOf t).toNat)
   case atStart=>exact⟨1,by omega,by omega,rfl,rfl,hi1⟩
   case round=>
    obtain⟨wo,rfl⟩:∃wo:World,wo=wr:=⟨_,rfl⟩;obtain⟨T,hT1,hT2,rfl,rfl,hi⟩:=hrel;have hcT:=S09.cT_le hT2;by_cases hlt:T≤30
    ·have d1:decide ((T:Int)≤30)=true:=by simp;omega
     go_wp2;go_loopw [2,17] (fun s c wr=>∃O:Nat,O≤T+1∧c = .int .i64 O∧s = .int .i64 (S09.cO T (S09.cT T) O)∧Inv (S09.cO T (S09.cT T) O) wr) (fun _ c _=>32-(intOf c).toNat)
     case atStart=>exact⟨0,by omega,rfl,rfl,hi⟩
     case round=>
      obtain⟨O,hO,rfl,rfl,hi2⟩:=hrel;have hcO:=S09.cO_le T (S09.cT T) O;by_cases hO2:O≤T
      ·have d2:decide ((O:Int)<(T:Int)+1)=true:=by simp;omega
       have hal:=S09.allowed_nat hO2 hlt;have hstep:S09.cO T (S09.cT T) (O+1)=S09.cL T O (S09.cO T (S09.cT T) O) 2:=rfl;have Hstep:=zB hstep;clear hstep;cases hra:S09.rallowed ((T:Int)-O) O with
       | false=>
         rw[hra]at hal;have hno:∀l,l<2→S09.ok T O l=false:=fun l hl=>by rw[S09.ok_eq hO2 hT1 hl,hra];rfl
         have hsame:S09.cL T O (S09.cO T (S09.cT T) O) 2=S09.cO T (S09.cT T) O:=by simp[S09.cL,hno 0,hno 1]
         have Hsame:=zB hsame;clear hsame hno hra;have HA:=zB fun W=>zgZ ((T:Int)-O) O W;rw[hal]at HA;clear hal;go_wp2_with fail;refine(HA.out _).mono ?_;rintro e w2 ⟨rfl,hb2⟩;have hi3:=Hst.out _ _ _ hi2 hb2;go_wp2;go_roundw
         case rel=>exact⟨O+1,by omega,by go_num,by rw[Hstep.out,Hsame.out],by rw[Hstep.out,Hsame.out];exact hi3⟩
         case measure=>simp[intOf];omega
       | true=>
         rw[hra]at hal;have hok:∀l,l<2→S09.ok T O l=(decide (l=0∧O<T)||decide (l=1∧0<O)):=fun l hl=>by rw[S09.ok_eq hO2 hT1 hl,hra];rfl
         have Hok:=zB hok;clear hok hra;have HA:=zB fun W=>zgZ ((T:Int)-O) O W;rw[hal]at HA;clear hal;go_wp2_with fail;refine(HA.out _).mono ?_;rintro e w2 ⟨rfl,hb2⟩;have hi3:=Hst.out _ _ _ hi2 hb2;obtain⟨base,hbase⟩:∃b,b=S09.cO T (S09.cT T) O:=⟨_,rfl⟩;have Hbase:=zB hbase;rw[←hbase]at hi3 hcO Hstep⊢;clear hbase hi2;go_wp2;go_loopw [2,27] (fun s c wr=>∃L:Nat,L≤2∧c = .int .i64 L∧s = .int .i64 (S09.cL T O base L)∧Inv (S09.cL T O base L) wr) (fun _ c _=>2-(intOf c).toNat)
         case atStart=>exact⟨0,by omega,rfl,rfl,hi3⟩
         case round=>
          obtain⟨L,hL,rfl,rfl,hi4⟩:=hrel;have hcL:=S09.cL_le T O base L;have hcnt:S09.cL T O base L=S09.cnt T O L:=by rw[Hbase.out];rfl
          rcases(show L=2∨L=0∨L=1 by omega)with rfl|rfl|rfl
          ·go_wp2;go_roundw
           case rel=>exact⟨O+1,by omega,by go_num,by rw[Hstep.out],by rw[Hstep.out];exact hi4⟩
           case measure=>simp[intOf];omega
          ·by_cases hz:O=T
           ·have hk:S09.ok T O 0=false:=by rw[Hok.out 0 (by omega)];simp;omega
            have hc1:S09.cL T O base 1=S09.cL T O base 0:=by simp[S09.cL,hk]
            have Hc1:=zB hc1;clear hc1 hk;have e0:(T:Int)-O=0:=by omega
            subst hz;go_wp2;go_roundw
            case rel=>exact⟨1,by omega,by go_num,by rw[Hc1.out],by rw[Hc1.out];exact hi4⟩
            case measure=>simp[intOf]
           ·have hk:S09.ok T O 0=true:=by rw[Hok.out 0 (by omega)];simp;omega
            have hc1:S09.cL T O base 1=S09.cL T O base 0+1:=by simp[S09.cL,hk]
            have Hc1:=zB hc1;clear hc1;have hv1:=Hv.out T O 0 _ hlt hO2 (by omega) hk (hcnt▸hi4);have hne:¬(T:Int)-O=0:=by omega
            rw[←hcnt]at hv1;have Hv1:=zB hv1;clear hv1;have Hcnt:=zB hcnt;clear hcnt;have hb1:S09.cL T O base 0≤300:=by omega
            generalize S09.cL T O base 0=c0 at *;cases hg:go T O 0 with
            | false=>
              rw[hg]at Hv1;have Hg:=zB hg;clear hg;go_wp2_with fail;refine Hv1.out.mono ?_;rintro e w3 ⟨rfl,hi5⟩;go_wp2;go_returns;exact⟨rfl,.inr ⟨T,O,0,hlt,hO2,by omega,hk,Hg.out,by rw[←Hcnt.out];exact hi5⟩⟩
            | true=>
              rw[hg]at Hv1;clear hg;go_wp2_with fail;refine Hv1.out.mono ?_;rintro e w3 ⟨rfl,hi5⟩;go_wp2;go_roundw
              case rel=>exact⟨1,by omega,by go_num,by rw[Hc1.out];go_num,by rw[Hc1.out];exact hi5⟩
              case measure=>simp[intOf]
          ·by_cases hz:O=0
           ·have hk:S09.ok T O 1=false:=by rw[Hok.out 1 (by omega)];simp;omega
            have hc1:S09.cL T O base 2=S09.cL T O base 1:=by simp[S09.cL,hk]
            have Hc1:=zB hc1;clear hc1 hk;subst hz;go_wp2;go_roundw
            case rel=>exact⟨2,by omega,by go_num,by rw[Hc1.out],by rw[Hc1.out];exact hi4⟩
            case measure=>simp[intOf]
           ·have hk:S09.ok T O 1=true:=by rw[Hok.out 1 (by omega)];simp;omega
            have hc1:S09.cL T O base 2=S09.cL T O base 1+1:=by simp[S09.cL,hk]
            have Hc1:=zB hc1;clear hc1;have hv1:=Hv.out T O 1 _ hlt hO2 (by omega) hk (hcnt▸hi4);have hne:¬(O:Int)=0:=by omega
            rw[←hcnt]at hv1;have Hv1:=zB hv1;clear hv1;have Hcnt:=zB hcnt;clear hcnt;have hb1:S09.cL T O base 1≤300:=by omega
            generalize S09.cL T O base 1=c0 at *;cases hg:go T O 1 with
            | false=>
              rw[hg]at Hv1;have Hg:=zB hg;clear hg;go_wp2_with fail;refine Hv1.out.mono ?_;rintro e w3 ⟨rfl,hi5⟩;go_wp2;go_returns;exact⟨rfl,.inr ⟨T,O,1,hlt,hO2,by omega,hk,Hg.out,by rw[←Hcnt.out];exact hi5⟩⟩
            | true=>
              rw[hg]at Hv1;clear hg;go_wp2_with fail;refine Hv1.out.mono ?_;rintro e w3 ⟨rfl,hi5⟩;go_wp2;go_roundw
              case rel=>exact⟨2,by omega,by go_num,by rw[Hc1.out];go_num,by rw[Hc1.out];exact hi5⟩
              case measure=>simp[intOf]
      ·obtain rfl:O=T+1:=by omega
       go_wp2;go_roundw
       case rel=>exact⟨T+1,by omega,by omega,by go_num,rfl,hi2⟩
       case measure=>simp[intOf];omega
    ·obtain rfl:T=31:=by omega
     go_wp2;go_returns;exact⟨rfl,.inl (by rw[S09.cT_all]at hi;exact hi)⟩
theorem enterCount(args:Array Value)(w:World):(callFunc 148 args).run Tryz.prog w = .ok (.enter 148 args) w:=by kernel_rfl
theorem S09.at_cnt{t o l:Nat}(ht:t≤30)(ho:o≤t)(hl:l<2)(h:S09.ok t o l=true) :
 S09.hz (S09.cnt t o l)=(t:Int)-o∧S09.ho (S09.cnt t o l)=o∧S09.hl (S09.cnt t o l)=l:=by
 obtain⟨h1,h2⟩:=S09.at_place ht ho hl h;have hf:S09.found (S09.cnt t o l)=true:=zL (by omega);simp[S09.hz,S09.ho,S09.hl,hf,h2]
theorem countVisit09(n z o l:Int)(c:Nat)(bc B:Nat)(w:World)(hc:Blk w bc [.int .i64 c] 3)(h1:B≤bc)(h3:B≤w.heap.size)(hlt:c≤1000) :
 Calls Tryz.prog 148 #[.int .i64 n,S09.hist z o l,.pointer (some ⟨bc,0,none⟩)] w fun e w'=>
  e = .returned (.bool true)∧Blk w' bc [.int .i64 (c+1:Nat)] 3∧Below B w w':=by
 have c1:=hc.cell 0;have f1:=hc.free 0;have l1:=hc.lt;simp only[lgz]at c1;have Hc:=zB hc;clear hc;go_enter Tryz.func148,Tryz.ntmps148;go_wp2;go_returns;exact⟨rfl,((Hc.out.set 0 _).alloc _),((zI _ _).setCell h1 _).alloc (by simp;omega) _⟩
def zoH(W:World)(B bc:Nat)(k:Nat)(w:World):Prop:=k≤500∧Blk w bc [.int .i64 k] 3∧Below B W w
theorem zoC(W:World)(B bc:Nat)(h1:B≤bc)(h3:B≤W.heap.size) :
 S09.Visits 148 #[.pointer (some ⟨bc,0,none⟩)] (zoH W B bc) (fun _ _ _=>true):=by
 intro t o l w ht ho hl hok ⟨hk,hc,hB⟩;have:=S09.cnt_lt ht ho hl hok;refine(countVisit09 (S09.cnt t o l) ((t:Int)-o) o l (S09.cnt t o l) bc B w hc h1 (yD h3 hB.size) (by omega)).mono ?_;rintro e w' ⟨rfl,hc',hB'⟩;exact⟨rfl,by omega,hc',hB.trans hB'⟩
theorem zlC(w:World) :
 Calls Tryz.prog 136 #[] w fun e w'=>e = .returned (.int .i64 215)∧Below w.heap.size w w':=by
 have hinv:zoH (w.alloc (Obj.cells #[.int .i64 0] 3)) w.heap.size w.heap.size 0 (w.alloc (Obj.cells #[.int .i64 0] 3)):=
  ⟨by omega,Blk.new w [.int .i64 0] _,zI _ _⟩
 have hcall:=each09_any 148 enterCount _ _ _ ?hst (zoC _ w.heap.size w.heap.size (zG _) (by simp)) _ hinv
 case hst=>
  rintro k w1 w2 ⟨g0,g1,g2⟩ hb;exact⟨g0,g1.step hb,g2.trans (hb.mono (yD (by simp) g2.size))⟩
 have Hcall:=zB hcall;clear hcall hinv;go_enter Tryz.func136,Tryz.ntmps136;go_wp2_with fail;refine Hcall.out.mono ?_;rintro e w1 ⟨rfl,hvis⟩;have hend:zoH (w.alloc (Obj.cells #[.int .i64 0] 3)) w.heap.size w.heap.size 215 w1:=by
  rcases hvis with h|⟨_,_,_,_,_,_,_,h,_⟩
  ·exact h
  ·cases h
 have c1:=hend.2.1.cell 0;simp only[lgz]at c1;have hBw:Below w.heap.size w w1:=(by go_grown:Below w.heap.size w _).trans hend.2.2;clear hvis hend;go_wp2;go_returns;exact⟨rfl,hBw⟩
end Go.Proofs.YtieeogndnhighaaGreat
