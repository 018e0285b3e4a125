/- A part of the proof of L15. No condition. -/
import Derived.Deep.Light
import Derived.Handy
import Derived.Test.YtahaacfikalheaaGreatRows
import Derived.WalkLawsBesides
import Derived.WalkSpells
import Derived.Test.YtahaacfikalheaaGreatZL15ac
import Derived.Test.YtahaacfikalheaaGreatZL15ad
set_option linter.all false
set_option maxRecDepth 100000
set_option maxHeartbeats 2000000
namespace Go.Proofs.YtahaacfikalheaaGreat
open Go.RowKit
theorem zfZ(n:Int)(w:World):Calls Tryz.prog 85 #[.int .i64 n] w fun e w'=>e = .returned (.int .i64 (S09.bound n (-1)))∧Below w.heap.size w w':=by
 by_cases hin:n=0∨n=1∨n=2∨n=3∨n=4∨n=5
 ·rcases hin with rfl|rfl|rfl|rfl|rfl|rfl;all_goals (go_enter Tryz.func85,Tryz.ntmps85;go_wp2;go_returns;exact⟨rfl,by go_grown⟩)
 ·have h0:¬n=0:=by omega
  have h1:¬n=1:=by omega
  have h2:¬n=2:=by omega
  have h3:¬n=3:=by omega
  have h4:¬n=4:=by omega
  have h5:¬n=5:=by omega
  have e:S09.bound n (-1)=(-1):=by unfold S09.bound;rw[zG h0,zG h1,zG h2,zG h3,zG h4,zG h5]
  rw[e];go_enter Tryz.func85,Tryz.ntmps85;go_wp2;go_returns;exact⟨rfl,by go_grown⟩
theorem zsK(n:Int)(w:World)(h0:0≤n)(h1:n≤1000):Calls Tryz.prog 154 #[.int .i64 n] w fun e w'=>e = .returned (.int .i64 (S09.fade n))∧Below w.heap.size w w':=by
 by_cases h2:2<n
 ·obtain⟨m,rfl⟩:∃m:Nat,n=(m:Int)+2:=⟨(n-2).toNat,by omega⟩;have e1:(((m:Int)+2-2)).tdiv 3=((m/3:Nat):Int):=by rw[show(m:Int)+2-2=(m:Int) by omega];rfl
  have w1:IntKind.i64.wrap ((m:Int)+2-2)=(m:Int)+2-2:=IntWalk.i64_in _ (by omega);have w2:IntKind.i64.wrap (((m:Int)+2-2).tdiv 3)=((m:Int)+2-2).tdiv 3:=IntWalk.i64_in _ (by rw[e1];omega);have w3:IntKind.i64.wrap (2+((m:Int)+2-2).tdiv 3)=2+((m:Int)+2-2).tdiv 3:=IntWalk.i64_in _ (by rw[e1];omega);go_enter Tryz.func154,Tryz.ntmps154;go_wp2;go_returns;refine⟨zeF ?_,by go_grown⟩;try go_light
  unfold S09.fade;rw[zO h2];first|rfl|(simp only[w1,w2,w3])|omega
 ·go_enter Tryz.func154,Tryz.ntmps154;go_wp2;go_returns;refine⟨zeF ?_,by go_grown⟩;try go_light
  have h3:¬2<n:=by omega
  unfold S09.fade;rw[zG h3]
theorem zkS(z o:Int)(w:World):Calls Tryz.prog 84 #[.int .i64 z,.int .i64 o] w fun e w'=>e = .returned (.bool (S09.allowed z o))∧Below w.heap.size w w':=by
 rcases(show z<o∨z=o∨o<z by omega)with h|h|h
 ·have e:S09.allowed z o=decide (o≤S09.bound z (-1)):=by unfold S09.allowed;rw[Int.min_eq_left (by omega),Int.max_eq_right (by omega)]
  have h2:¬o<z:=by omega
  have h3:z≤o:=by omega
  rw[e];go_enter Tryz.func84,Tryz.ntmps84;go_wp2_with fail;refine(zfZ _ _).mono ?_;rintro e w1 ⟨rfl,hb1⟩;have hB1:Below w.heap.size w w1:=zA (by go_grown) hb1;go_wp2;go_returns;exact⟨rfl,hB1⟩
 ·subst h;have e:S09.allowed z z=decide (z≤S09.bound z (-1)):=by unfold S09.allowed;rw[Int.min_eq_left (by omega),Int.max_eq_right (by omega)]
  rw[e];go_enter Tryz.func84,Tryz.ntmps84;go_wp2_with fail;refine(zfZ _ _).mono ?_;rintro e w1 ⟨rfl,hb1⟩;have hB1:Below w.heap.size w w1:=zA (by go_grown) hb1;go_wp2;go_returns;exact⟨rfl,hB1⟩
 ·have e:S09.allowed z o=decide (z≤S09.bound o (-1)):=by unfold S09.allowed;rw[Int.min_eq_right (by omega),Int.max_eq_left (by omega)]
  have h2:¬z<o:=by omega
  have h3:o≤z:=by omega
  rw[e];go_enter Tryz.func84,Tryz.ntmps84;go_wp2_with fail;refine(zfZ _ _).mono ?_;rintro e w1 ⟨rfl,hb1⟩;have hB1:Below w.heap.size w w1:=zA (by go_grown) hb1;go_wp2;go_returns;exact⟨rfl,hB1⟩
theorem S09.bound_le(a other:Int)(h:other≤30):S09.bound a other≤30:=by
 unfold S09.bound
 (repeat' split)<;>omega
theorem S09.rallowed_bounds{z o:Int}(h:S09.rallowed z o=true):0≤z∧z≤30∧0≤o∧o≤30:=by
 have h':=zaV h;have:=S09.bound_le (min z o) 0 (by omega);omega
abbrev S09.hist(z o l:Int):Value:=.agg #[.int .i64 z,.int .i64 o,.int .i64 l]
def S09.Visited(Inv:Nat→World→Prop)(go:Nat→Nat→Nat→Bool)(w':World):Prop:=
 Inv 215 w'∨∃t o l,t≤30∧o≤t∧l<2∧S09.ok t o l=true∧go t o l=false∧Inv (S09.cnt t o l+1) w'
def S09.Visits(F:FuncId)(caps:Array Value)(Inv:Nat→World→Prop)(go:Nat→Nat→Nat→Bool):Prop:=
 ∀t o l w,t≤30→o≤t→l<2→S09.ok t o l=true→Inv (S09.cnt t o l) w→
  Calls Tryz.prog F (#[.int .i64 (S09.cnt t o l),S09.hist ((t:Int)-o) o l]++caps) w fun e w'=>e = .returned (.bool (go t o l))∧Inv (S09.cnt t o l+1) w'
theorem S09.allowed_nat{t o:Nat}(ho:o≤t)(ht:t≤30):S09.allowed ((t:Int)-o) o=S09.rallowed ((t:Int)-o) o:=by
 have:S09.allPlaces (fun t o _=>S09.allowed ((t:Int)-o) o==S09.rallowed ((t:Int)-o) o)=true:=by decide +kernel
 simpa using S09.allPlaces_spec this ht ho (l:=0) (by omega)
theorem S09.ok_eq{t o l:Nat}(ho:o≤t)(h1:1≤t)(hl:l<2):S09.ok t o l=(S09.rallowed ((t:Int)-o) o&&(decide (l=0∧o<t)||decide (l=1∧0<o))):=by
 unfold S09.ok S09.is;rw[zG (by omega)]
 congr 1
 rcases(show l=0∨l=1 by omega)with rfl|rfl<;>simp<;>omega
theorem S09.cnt_lt{t o l:Nat}(ht:t≤30)(ho:o≤t)(hl:l<2)(h:S09.ok t o l=true):S09.cnt t o l<215:=(S09.at_place ht ho hl h).1
theorem S09.cL_le(t o b:Nat):∀l,S09.cL t o b l≤b+l
 | 0=>zD _
 | l+1=>by have:=S09.cL_le t o b l;simp only[S09.cL];split<;>omega
theorem S09.cO_le(t b:Nat):∀o,S09.cO t b o≤b+2*o
 | 0=>by simp[S09.cO]
 | o+1=>by have:=S09.cO_le t b o;have:=S09.cL_le t o (S09.cO t b o) 2;simp only[S09.cO];omega
theorem S09.cT_small:(List.range 32).all (fun t=>decide (S09.cT t≤215))=true:=by decide +kernel
theorem S09.cT_le{t:Nat}(h:t≤31):S09.cT t≤215:=by
 have:=S09.cT_small;simp only[List.all_eq_true,zfQ,zY]at this;exact this t (by omega)
theorem zmD(F:FuncId)(hF:∀args w,(callFunc F args).run Tryz.prog w = .ok (.enter F args) w)(caps:Array Value)(Inv:Nat→World→Prop)(go:Nat→Nat→Nat→Bool)
 (hst:∀k w w',Inv k w→Below w.heap.size w w'→Inv k w') (hv:S09.Visits F caps Inv go) (w:World) (h0:Inv 0 w) :
 Calls Tryz.prog 79 #[.func (.func F) #[] caps] w fun e w'=>e = .returned (.tuple #[])∧S09.Visited Inv go w':=by
 have hv0:Calls Tryz.prog F (#[.int .i64 0,S09.hist 0 0 0]++caps) w fun e w'=>e = .returned (.bool (go 0 0 0))∧Inv 1 w':=
  hv 0 0 0 w (by omega) (by omega) (by omega) (by decide) h0
 have Hst:=zB hst;have Hv:=zB hv;have Hv0:=zB hv0;clear hv0 hv hst;cases hg0:go 0 0 0 with
 | false=>
   rw[hg0]at Hv0;have Hg0:=zB hg0;clear hg0;go_enter Tryz.func79,Tryz.ntmps79;go_wp2_with fail;refine Hv0.out.mono ?_;rintro e w1 ⟨rfl,hi1⟩;go_wp2;go_returns;exact⟨rfl,.inr ⟨0,0,0,by omega,by omega,by omega,by decide,Hg0.out,hi1⟩⟩
 | true=>
   rw[hg0]at Hv0;clear hg0;go_enter Tryz.func79,Tryz.ntmps79;go_wp2_with fail;refine Hv0.out.mono ?_;rintro e w1 ⟨rfl,hi1⟩;go_wp2;go_loopw [2,3] (fun s t wr=>∃T:Nat,1≤T∧T≤31∧t = .int .i64 T∧s = .int .i64 (S09.cT T)∧Inv (S09.cT T) wr) (fun _ t _=>31-(intOf t).toNat)
   case atStart=>exact⟨1,by omega,by omega,rfl,rfl,hi1⟩
   case round=>
    obtain⟨wo,rfl⟩:∃wo:World,wo=wr:=⟨_,rfl⟩;obtain⟨T,hT1,hT2,rfl,rfl,hi⟩:=hrel;have hcT:=S09.cT_le hT2;by_cases hlt:T≤30
    ·have d1:decide ((T:Int)≤30)=true:=by simp;omega
     go_wp2;go_loopw [2,17] (fun s c wr=>∃O:Nat,O≤T+1∧c = .int .i64 O∧s = .int .i64 (S09.cO T (S09.cT T) O)∧Inv (S09.cO T (S09.cT T) O) wr) (fun _ c _=>32-(intOf c).toNat)
     case atStart=>exact⟨0,by omega,rfl,rfl,hi⟩
     case round=>
      obtain⟨O,hO,rfl,rfl,hi2⟩:=hrel;have hcO:=S09.cO_le T (S09.cT T) O;by_cases hO2:O≤T
      ·have d2:decide ((O:Int)<(T:Int)+1)=true:=by simp;omega
       have hal:=S09.allowed_nat hO2 hlt;have hstep:S09.cO T (S09.cT T) (O+1)=S09.cL T O (S09.cO T (S09.cT T) O) 2:=rfl;have Hstep:=zB hstep;clear hstep;cases hra:S09.rallowed ((T:Int)-O) O with
       | false=>
         rw[hra]at hal;have hno:∀l,l<2→S09.ok T O l=false:=fun l hl=>by rw[S09.ok_eq hO2 hT1 hl,hra];rfl
         have hsame:S09.cL T O (S09.cO T (S09.cT T) O) 2=S09.cO T (S09.cT T) O:=by simp[S09.cL,hno 0,hno 1]
         have Hsame:=zB hsame;clear hsame hno hra;have HA:=zB fun W=>zkS ((T:Int)-O) O W;rw[hal]at HA;clear hal;go_wp2_with fail;refine(HA.out _).mono ?_;rintro e w2 ⟨rfl,hb2⟩;have hi3:=Hst.out _ _ _ hi2 hb2;go_wp2;go_roundw
         case rel=>exact⟨O+1,by omega,by go_num,by rw[Hstep.out,Hsame.out],by rw[Hstep.out,Hsame.out];exact hi3⟩
         case measure=>simp[intOf];omega
       | true=>
         rw[hra]at hal;have hok:∀l,l<2→S09.ok T O l=(decide (l=0∧O<T)||decide (l=1∧0<O)):=fun l hl=>by rw[S09.ok_eq hO2 hT1 hl,hra];rfl
         have Hok:=zB hok;clear hok hra;have HA:=zB fun W=>zkS ((T:Int)-O) O W;rw[hal]at HA;clear hal;go_wp2_with fail;refine(HA.out _).mono ?_;rintro e w2 ⟨rfl,hb2⟩;have hi3:=Hst.out _ _ _ hi2 hb2;obtain⟨base,hbase⟩:∃b,b=S09.cO T (S09.cT T) O:=⟨_,rfl⟩;have Hbase:=zB hbase;rw[←hbase]at hi3 hcO Hstep⊢;clear hbase hi2;go_wp2;go_loopw [2,27] (fun s c wr=>∃L:Nat,L≤2∧c = .int .i64 L∧s = .int .i64 (S09.cL T O base L)∧Inv (S09.cL T O base L) wr) (fun _ c _=>2-(intOf c).toNat)
         case atStart=>exact⟨0,by omega,rfl,rfl,hi3⟩
         case round=>
          obtain⟨L,hL,rfl,rfl,hi4⟩:=hrel;have hcL:=S09.cL_le T O base L;have hcnt:S09.cL T O base L=S09.cnt T O L:=by rw[Hbase.out];rfl
          rcases(show L=2∨L=0∨L=1 by omega)with rfl|rfl|rfl
          ·go_wp2;go_roundw
           case rel=>exact⟨O+1,by omega,by go_num,by rw[Hstep.out],by rw[Hstep.out];exact hi4⟩
           case measure=>simp[intOf];omega
          ·by_cases hz:O=T
           ·have hk:S09.ok T O 0=false:=by rw[Hok.out 0 (by omega)];simp;omega
            have hc1:S09.cL T O base 1=S09.cL T O base 0:=by simp[S09.cL,hk]
            have Hc1:=zB hc1;clear hc1 hk;have e0:(T:Int)-O=0:=by omega
            subst hz;go_wp2;go_roundw
            case rel=>exact⟨1,by omega,by go_num,by rw[Hc1.out],by rw[Hc1.out];exact hi4⟩
            case measure=>simp[intOf]
           ·have hk:S09.ok T O 0=true:=by rw[Hok.out 0 (by omega)];simp;omega
            have hc1:S09.cL T O base 1=S09.cL T O base 0+1:=by simp[S09.cL,hk]
            have Hc1:=zB hc1;clear hc1;have hv1:=Hv.out T O 0 _ hlt hO2 (by omega) hk (hcnt▸hi4);have hne:¬(T:Int)-O=0:=by omega
            rw[←hcnt]at hv1;have Hv1:=zB hv1;clear hv1;have Hcnt:=zB hcnt;clear hcnt;have hb1:S09.cL T O base 0≤300:=by omega
            generalize S09.cL T O base 0=c0 at *;cases hg:go T O 0 with
            | false=>
              rw[hg]at Hv1;have Hg:=zB hg;clear hg;go_wp2_with fail;refine Hv1.out.mono ?_;rintro e w3 ⟨rfl,hi5⟩;go_wp2;go_returns;exact⟨rfl,.inr ⟨T,O,0,hlt,hO2,by omega,hk,Hg.out,by rw[←Hcnt.out];exact hi5⟩⟩
            | true=>
              rw[hg]at Hv1;clear hg;go_wp2_with fail;refine Hv1.out.mono ?_;rintro e w3 ⟨rfl,hi5⟩;go_wp2;go_roundw
              case rel=>exact⟨1,by omega,by go_num,by rw[Hc1.out];go_num,by rw[Hc1.out];exact hi5⟩
              case measure=>simp[intOf]
          ·by_cases hz:O=0
           ·have hk:S09.ok T O 1=false:=by rw[Hok.out 1 (by omega)];simp;omega
            have hc1:S09.cL T O base 2=S09.cL T O base 1:=by simp[S09.cL,hk]
            have Hc1:=zB hc1;clear hc1 hk;subst hz;go_wp2;go_roundw
            case rel=>exact⟨2,by omega,by go_num,by rw[Hc1.out],by rw[Hc1.out];exact hi4⟩
            case measure=>simp[intOf]
           ·have hk:S09.ok T O 1=true:=by rw[Hok.out 1 (by omega)];simp;omega
            have hc1:S09.cL T O base 2=S09.cL T O base 1+1:=by simp[S09.cL,hk]
            have Hc1:=zB hc1;clear hc1;have hv1:=Hv.out T O 1 _ hlt hO2 (by omega) hk (hcnt▸hi4);have hne:¬(O:Int)=0:=by omega
            rw[←hcnt]at hv1;have Hv1:=zB hv1;clear hv1;have Hcnt:=zB hcnt;clear hcnt;have hb1:S09.cL T O base 1≤300:=by omega
            generalize S09.cL T O base 1=c0 at *;cases hg:go T O 1 with
            | false=>
              rw[hg]at Hv1;have Hg:=zB hg;clear hg;go_wp2_with fail;refine Hv1.out.mono ?_;rintro e w3 ⟨rfl,hi5⟩;go_wp2;go_returns;exact⟨rfl,.inr ⟨T,O,1,hlt,hO2,by omega,hk,Hg.out,by rw[←Hcnt.out];exact hi5⟩⟩
            | true=>
              rw[hg]at Hv1;clear hg;go_wp2_with fail;refine Hv1.out.mono ?_;rintro e w3 ⟨rfl,hi5⟩;go_wp2;go_roundw
              case rel=>exact⟨2,by omega,by go_num,by rw[Hc1.out];go_num,by rw[Hc1.out];exact hi5⟩
              case measure=>simp[intOf]
      ·obtain rfl:O=T+1:=by omega
       go_wp2;go_roundw
       case rel=>exact⟨T+1,by omega,by omega,by go_num,rfl,hi2⟩
       case measure=>simp[intOf];omega
    ·obtain rfl:T=31:=by omega
     go_wp2;go_returns;exact⟨rfl,.inl (by rw[S09.cT_all]at hi;exact hi)⟩
theorem enterLook(args:Array Value)(w:World):(callFunc 83 args).run Tryz.prog w = .ok (.enter 83 args) w:=by kernel_rfl
theorem enterRank(args:Array Value)(w:World):(callFunc 157 args).run Tryz.prog w = .ok (.enter 157 args) w:=by kernel_rfl
theorem enterCount(args:Array Value)(w:World):(callFunc 80 args).run Tryz.prog w = .ok (.enter 80 args) w:=by kernel_rfl
def zcY(z o l:Int):List Value:=[.int .i64 z,.int .i64 o,.int .i64 l]
theorem lookHit09(s z o l z0 o0 l0:Int)(f:Bool)(bs bo bf B:Nat)(w:World)(hs:Blk w bs [.int .i64 s] 3)(ho:Blk w bo (zcY z0 o0 l0) 156)(hf:Blk w bf [.bool f] 4)
 (h1:B≤bo) (h2:B≤bf) (h3:B≤w.heap.size) (d1:¬bs=bo) (d2:¬bs=bf) (d3:¬bo=bf) :
 Calls Tryz.prog 83 #[.int .i64 s,S09.hist z o l,.pointer (some ⟨bs,0,none⟩),.pointer (some ⟨bo,0,none⟩),.pointer (some ⟨bf,0,none⟩)] w fun e w'=>
  e = .returned (.bool false)∧Blk w' bs [.int .i64 s] 3∧Blk w' bo (zcY z o l) 156∧Blk w' bf [.bool true] 4∧Below B w w':=by
 have c1:=hs.cell 0;have c2:=ho.cell 0;have c3:=ho.cell 1;have c4:=ho.cell 2;have c5:=hf.cell 0;have f2:=ho.free 0;have f3:=ho.free 1;have f4:=ho.free 2;have f5:=hf.free 0;have l1:=hs.lt;have l2:=ho.lt;have l3:=hf.lt;simp only[zcY,lgz,lgs]at c1 c2 c3 c4 c5;have Hs:=zB hs;have Ho:=zB ho;have Hf:=zB hf;clear hs ho hf;go_enter Tryz.func83,Tryz.ntmps83;go_wp2;go_returns
 exact⟨rfl,((((Hs.out.other bo 0 _ d1).other bo 1 _ d1).other bo 2 _ d1).other bf 0 _ d2).alloc _,((((Ho.out.set 0 _).set 1 _).set 2 _).other bf 0 _ d3).alloc _,((((Hf.out.other bo 0 _ (Ne.symm d3)).other bo 1 _ (Ne.symm d3)).other bo 2 _ (Ne.symm d3)).set 0 _).alloc _,
  ((((((zF _ _).setCell h1 _).setCell h1 _).setCell h1 _).setCell h2 _)).alloc (by simp;omega) _⟩
theorem lookMiss09(n s z o l z0 o0 l0:Int)(f:Bool)(bs bo bf B:Nat)(w:World)(hs:Blk w bs [.int .i64 s] 3)(ho:Blk w bo (zcY z0 o0 l0) 156)(hf:Blk w bf [.bool f] 4)
 (h1:B≤bo) (h2:B≤bf) (h3:B≤w.heap.size) (d1:¬bs=bo) (d2:¬bs=bf) (d3:¬bo=bf) (hne:((n:Int)==s)=false) :
 Calls Tryz.prog 83 #[.int .i64 n,S09.hist z o l,.pointer (some ⟨bs,0,none⟩),.pointer (some ⟨bo,0,none⟩),.pointer (some ⟨bf,0,none⟩)] w fun e w'=>
  e = .returned (.bool !f)∧Blk w' bs [.int .i64 s] 3∧Blk w' bo (zcY z0 o0 l0) 156∧Blk w' bf [.bool f] 4∧Below B w w':=by
 have c1:=hs.cell 0;have c2:=ho.cell 0;have c3:=ho.cell 1;have c4:=ho.cell 2;have c5:=hf.cell 0;have f2:=ho.free 0;have f3:=ho.free 1;have f4:=ho.free 2;have f5:=hf.free 0;have l1:=hs.lt;have l2:=ho.lt;have l3:=hf.lt;simp only[zcY,lgz,lgs]at c1 c2 c3 c4 c5;have Hs:=zB hs;have Ho:=zB ho;have Hf:=zB hf;clear hs ho hf;go_enter Tryz.func83,Tryz.ntmps83;go_wp2;go_returns;exact⟨rfl,Hs.out.alloc _,Ho.out.alloc _,Hf.out.alloc _,(zF _ _).alloc h3 _⟩
def LookInv(W:World)(B:Nat)(s:Int)(bs bo bf:Nat)(k:Nat)(w:World):Prop:=
 Blk w bs [.int .i64 s] 3∧Blk w bo (if 0≤s∧s<k then zcY (S09.hz s) (S09.ho s) (S09.hl s)else zcY 0 0 0) 156∧Blk w bf [.bool (decide (0≤s∧s<k))] 4∧Below B W w
theorem S09.at_cnt{t o l:Nat}(ht:t≤30)(ho:o≤t)(hl:l<2)(h:S09.ok t o l=true) :
 S09.hz (S09.cnt t o l)=(t:Int)-o∧S09.ho (S09.cnt t o l)=o∧S09.hl (S09.cnt t o l)=l:=by
 obtain⟨h1,h2⟩:=S09.at_place ht ho hl h;have hf:S09.found (S09.cnt t o l)=true:=zQ (by omega);simp[S09.hz,S09.ho,S09.hl,hf,h2]
theorem lookVisits09(W:World)(B:Nat)(s:Int)(bs bo bf:Nat)(h1:B≤bo)(h2:B≤bf)(h3:B≤W.heap.size)(d1:¬bs=bo)(d2:¬bs=bf)(d3:¬bo=bf) :
 S09.Visits 83 #[.pointer (some ⟨bs,0,none⟩),.pointer (some ⟨bo,0,none⟩),.pointer (some ⟨bf,0,none⟩)] (LookInv W B s bs bo bf) (fun t o l=> !decide (0≤s∧s<(S09.cnt t o l+1:Nat))):=by
 intro t o l w ht ho hl hok ⟨hs,hbo,hbf,hB⟩;obtain⟨e1,e2,e3⟩:=S09.at_cnt ht ho hl hok;have hBw:B≤w.heap.size:=yC h3 hB.size;by_cases hne:(S09.cnt t o l:Int)=s
 ·subst hne;rw[zG (by omega)]at hbo;refine(lookHit09 (S09.cnt t o l) ((t:Int)-o) o l _ _ _ _ bs bo bf B w hs hbo hbf h1 h2 hBw d1 d2 d3).mono ?_;rintro e w' ⟨rfl,hs',hbo',hbf',hB'⟩;refine⟨by simp;omega,hs',?_,?_,hB.trans hB'⟩
  ·rw[zO (by omega),e1,e2,e3];exact hbo'
  ·rw[zQ (by omega)];exact hbf'
 ·have hb:(((S09.cnt t o l:Nat):Int)==s)=false:=by simpa using hne
  have hd:decide (0≤s∧s<((S09.cnt t o l+1:Nat):Int))=decide (0≤s∧s<((S09.cnt t o l:Nat):Int)):=by
   rw[decide_eq_decide];omega
  have hi:(if 0≤s∧s<((S09.cnt t o l+1:Nat):Int)then zcY (S09.hz s) (S09.ho s) (S09.hl s)else zcY 0 0 0)=(if 0≤s∧s<((S09.cnt t o l:Nat):Int)then zcY (S09.hz s) (S09.ho s) (S09.hl s)else zcY 0 0 0):=by
   by_cases hc:0≤s∧s<((S09.cnt t o l:Nat):Int)
   ·rw[zO hc,zO (by omega)]
   ·rw[zG hc,zG (by omega)]
  obtain⟨z0,o0,l0,hLC⟩:∃z0 o0 l0,(if 0≤s∧s<((S09.cnt t o l:Nat):Int)then zcY (S09.hz s) (S09.ho s) (S09.hl s)else zcY 0 0 0)=zcY z0 o0 l0:=by
   split
   ·exact⟨_,_,_,rfl⟩
   ·exact⟨_,_,_,rfl⟩
  rw[hLC]at hbo hi;refine(lookMiss09 (S09.cnt t o l) s ((t:Int)-o) o l z0 o0 l0 _ bs bo bf B w hs hbo hbf h1 h2 hBw d1 d2 d3 hb).mono ?_;rintro e w' ⟨rfl,hs',hbo',hbf',hB'⟩;refine⟨?_,hs',?_,?_,hB.trans hB'⟩
  ·simp only[hd]
  ·rw[hi];exact hbo'
  ·rw[hd];exact hbf'
theorem lookEnd09{W w':World}{B:Nat}{s:Int}{bs bo bf:Nat}(h:S09.Visited (LookInv W B s bs bo bf) (fun t o l=> !decide (0≤s∧s<(S09.cnt t o l+1:Nat))) w') :
 Blk w' bo (zcY (S09.hz s) (S09.ho s) (S09.hl s)) 156∧Blk w' bf [.bool (S09.found s)] 4∧Below B W w':=by
 rcases h with⟨_,hbo,hbf,hB⟩|⟨t,o,l,ht,ho,hl,hok,hgo,_,hbo,hbf,hB⟩
 ·refine⟨?_,hbf,hB⟩;split at hbo
  ·exact hbo
  ·rename_i hn
   have hf:S09.found s=false:=yD (by simpa using hn);simp only[S09.hz,S09.ho,S09.hl,hf];exact hbo
 ·have hc:=S09.cnt_lt ht ho hl hok;simp at hgo;have hgo':0≤s∧s<((S09.cnt t o l+1:Nat):Int):=by omega
  rw[zO hgo']at hbo;rw[zQ hgo']at hbf;have hf:S09.found s=true:=zQ (by omega);rw[hf];exact⟨hbo,hbf,hB⟩
theorem zsF(s:Int)(w:World) :
 Calls Tryz.prog 78 #[.int .i64 s] w fun e w'=>e = .returned (.tuple #[S09.hist (S09.hz s) (S09.ho s) (S09.hl s),.bool (S09.found s)])∧Below w.heap.size w w':=by
 have hinv:LookInv ((((w.alloc (Obj.cells #[.int .i64 s] 3)).alloc (Obj.cells #[.int .i64 0,.int .i64 0,.int .i64 0] 156)).alloc (Obj.cells #[.int .i64 0,.int .i64 0,.int .i64 0] 156)).alloc (Obj.cells #[.bool false] 4))
  (w.heap.size+1+1) s w.heap.size (w.heap.size+1+1) (w.heap.size+1+1+1) 0 ((((w.alloc (Obj.cells #[.int .i64 s] 3)).alloc (Obj.cells #[.int .i64 0,.int .i64 0,.int .i64 0] 156)).alloc (Obj.cells #[.int .i64 0,.int .i64 0,.int .i64 0] 156)).alloc (Obj.cells #[.bool false] 4)):=by
  refine⟨(((Blk.new w [.int .i64 s] _).alloc _).alloc _).alloc _,?_,?_,zF _ _⟩
  ·rw[zG (by omega)];have:=(Blk.new ((w.alloc (Obj.cells #[.int .i64 s] 3)).alloc (Obj.cells #[.int .i64 0,.int .i64 0,.int .i64 0] 156)) (zcY 0 0 0) 156).alloc (Obj.cells #[.bool false] 4);simpa[zcY] using this
  ·have:=Blk.new (((w.alloc (Obj.cells #[.int .i64 s] 3)).alloc (Obj.cells #[.int .i64 0,.int .i64 0,.int .i64 0] 156)).alloc (Obj.cells #[.int .i64 0,.int .i64 0,.int .i64 0] 156)) [.bool false] 4;rw[yD (by omega)];simpa using this
 have hcall:=zmD 83 enterLook _ _ _ ?hst (lookVisits09 _ (w.heap.size+1+1) s w.heap.size (w.heap.size+1+1) (w.heap.size+1+1+1) (zD _) (by omega) (by simp) (by omega) (by omega) (by omega)) _ hinv
 case hst=>
  rintro k w1 w2 ⟨g1,g2,g3,g4⟩ hb;exact⟨g1.step hb,g2.step hb,g3.step hb,g4.trans (hb.mono (yC (by simp) g4.size))⟩
 have Hcall:=zB hcall;clear hcall hinv;go_enter Tryz.func78,Tryz.ntmps78;go_wp2_with fail;refine Hcall.out.mono ?_;rintro e w1 ⟨rfl,hvis⟩;obtain⟨hbo,hbf,hB⟩:=lookEnd09 hvis;have hz1:w.heap.size+4≤w1.heap.size:=by have:=hB.size;simp at this;omega
 have hres:Blk w1 (w.heap.size+1) (zcY 0 0 0) 156:=by
  have h0:=((Blk.new (w.alloc (Obj.cells #[.int .i64 s] 3)) (zcY 0 0 0) 156).alloc (Obj.cells #[.int .i64 0,.int .i64 0,.int .i64 0] 156)).alloc (Obj.cells #[.bool false] 4);have:=h0.below hB (by simp);simpa using this
 have c1:=hbo.cell 0;have c2:=hbo.cell 1;have c3:=hbo.cell 2;have c4:=hbf.cell 0;have c5:=hres.cell 0;have c6:=hres.cell 1;have c7:=hres.cell 2;have f5:=hres.free 0;have f6:=hres.free 1;have f7:=hres.free 2;simp only[zcY,lgz,lgs]at c1 c2 c3 c4 c5 c6 c7;have hBw:Below w.heap.size w w1:=(by go_grown:Below w.heap.size w _).trans (hB.mono (by omega));clear hbo hbf hvis hB;have Hres:=zB hres;clear hres;go_wp2
 go_region
 go_wp2;have g0:(w1.setCell ⟨w.heap.size+1,0,none⟩ (.int .i64 (S09.hz s))).cell? ⟨w.heap.size+1,0,none⟩=some (.int .i64 (S09.hz s)):=(Hres.out.set 0 _).cell 0;have g1:((w1.setCell ⟨w.heap.size+1,0,none⟩ (.int .i64 (S09.hz s))).setCell ⟨w.heap.size+1,1,none⟩ (.int .i64 (S09.ho s))).cell? ⟨w.heap.size+1,1,none⟩=some (.int .i64 (S09.ho s)):=((Hres.out.set 0 _).set 1 _).cell 1;have g2:(((w1.setCell ⟨w.heap.size+1,0,none⟩ (.int .i64 (S09.hz s))).setCell ⟨w.heap.size+1,1,none⟩ (.int .i64 (S09.ho s))).setCell ⟨w.heap.size+1,2,none⟩ (.int .i64 (S09.hl s))).cell? ⟨w.heap.size+1,2,none⟩=some (.int .i64 (S09.hl s)):=(((Hres.out.set 0 _).set 1 _).set 2 _).cell 2;refine bodyPost_ret (v:=.tuple #[S09.hist (S09.hz s) (S09.ho s) (S09.hl s),.bool (S09.found s)]) (by simp[results,Tryz.results78,go_sem,g0,g1,g2]) rfl ⟨rfl,?_⟩;exact((((hBw.setCell (by simp) _).setCell (by simp) _).setCell (by simp) _)).drew
theorem countVisit09(n z o l:Int)(c:Nat)(bc B:Nat)(w:World)(hc:Blk w bc [.int .i64 c] 3)(h1:B≤bc)(h3:B≤w.heap.size)(hlt:c≤1000) :
 Calls Tryz.prog 80 #[.int .i64 n,S09.hist z o l,.pointer (some ⟨bc,0,none⟩)] w fun e w'=>
  e = .returned (.bool true)∧Blk w' bc [.int .i64 (c+1:Nat)] 3∧Below B w w':=by
 have c1:=hc.cell 0;have f1:=hc.free 0;have l1:=hc.lt;simp only[lgz]at c1;have Hc:=zB hc;clear hc;go_enter Tryz.func80,Tryz.ntmps80;go_wp2;go_returns;exact⟨rfl,((Hc.out.set 0 _).alloc _),((zF _ _).setCell h1 _).alloc (by simp;omega) _⟩
def zuF(W:World)(B bc:Nat)(k:Nat)(w:World):Prop:=k≤500∧Blk w bc [.int .i64 k] 3∧Below B W w
theorem ztU(W:World)(B bc:Nat)(h1:B≤bc)(h3:B≤W.heap.size) :
 S09.Visits 80 #[.pointer (some ⟨bc,0,none⟩)] (zuF W B bc) (fun _ _ _=>true):=by
 intro t o l w ht ho hl hok ⟨hk,hc,hB⟩;have:=S09.cnt_lt ht ho hl hok;refine(countVisit09 (S09.cnt t o l) ((t:Int)-o) o l (S09.cnt t o l) bc B w hc h1 (yC h3 hB.size) (by omega)).mono ?_;rintro e w' ⟨rfl,hc',hB'⟩;exact⟨rfl,by omega,hc',hB.trans hB'⟩
theorem zfW(w:World) :
 Calls Tryz.prog 73 #[] w fun e w'=>e = .returned (.int .i64 215)∧Below w.heap.size w w':=by
 have hinv:zuF (w.alloc (Obj.cells #[.int .i64 0] 3)) w.heap.size w.heap.size 0 (w.alloc (Obj.cells #[.int .i64 0] 3)):=
  ⟨by omega,Blk.new w [.int .i64 0] _,zF _ _⟩
 have hcall:=zmD 80 enterCount _ _ _ ?hst (ztU _ w.heap.size w.heap.size (zD _) (by simp)) _ hinv
 case hst=>
  rintro k w1 w2 ⟨g0,g1,g2⟩ hb;exact⟨g0,g1.step hb,g2.trans (hb.mono (yC (by simp) g2.size))⟩
 have Hcall:=zB hcall;clear hcall hinv;go_enter Tryz.func73,Tryz.ntmps73;go_wp2_with fail;refine Hcall.out.mono ?_;rintro e w1 ⟨rfl,hvis⟩;have hend:zuF (w.alloc (Obj.cells #[.int .i64 0] 3)) w.heap.size w.heap.size 215 w1:=by
  rcases hvis with h|⟨_,_,_,_,_,_,_,h,_⟩
  ·exact h
  ·cases h
 have c1:=hend.2.1.cell 0;simp only[lgz]at c1;have hBw:Below w.heap.size w w1:=(by go_grown:Below w.heap.size w _).trans hend.2.2;clear hvis hend;go_wp2;go_returns;exact⟨rfl,hBw⟩
theorem S09.is_place{z o l:Int}(h:S09.is z o l=true):∃t' o' l':Nat,t'≤30∧o'≤t'∧l'<2∧z=(t':Int)-o'∧o=o'∧l=l'∧S09.ok t' o' l'=true∧S09.idx z o l=S09.cnt t' o' l':=by
 have h0:=h;have hi:S09.idx z o l=S09.cnt (z+o).toNat o.toNat l.toNat:=by simp[S09.idx,h]
 simp only[S09.is,zS]at h;obtain⟨hr,hl⟩:=h;have hr':=zaV hr;have hsum:z+o≤30:=by
  have h5:=hr'.2.2.1;have h6:=hr'.2.2.2;unfold S09.bound at h6
  (repeat' split at h6)<;>omega
 have hl2:l=0∨l=1:=by
  split at hl
  ·simp at hl;omega
  ·simp at hl;omega
 obtain⟨h1,h2,h3,h4⟩:=S09.rallowed_bounds hr;refine⟨(z+o).toNat,o.toNat,l.toNat,by omega,by omega,by omega,by omega,by omega,by omega,?_,hi⟩;unfold S09.ok;rw[show(((z+o).toNat:Nat):Int)-o.toNat=z by omega,show((o.toNat:Nat):Int)=o by omega,show((l.toNat:Nat):Int)=l by omega];exact h0
theorem S09.place_inj{t o l t' o' l':Nat}(ht:t≤30)(ho:o≤t)(hl:l<2)(h:S09.ok t o l=true)(ht':t'≤30)(ho':o'≤t')(hl':l'<2)(h':S09.ok t' o' l'=true)
 (e:S09.cnt t o l=S09.cnt t' o' l'):t=t'∧o=o'∧l=l':=by
 have h1:=(S09.at_place ht ho hl h).2;have h2:=(S09.at_place ht' ho' hl' h').2;rw[e,h2]at h1;cases h1;exact⟨rfl,rfl,rfl⟩
theorem S09.cL_mono(t o b:Nat):∀l,b≤S09.cL t o b l
 | 0=>zD _
 | l+1=>by have:=S09.cL_mono t o b l;simp only[S09.cL];omega
theorem S09.cL_two(t o b l:Nat)(hl:l<2):S09.cL t o b l≤S09.cL t o b 2:=by
 rcases(show l=0∨l=1 by omega)with rfl|rfl
 ·simp only[S09.cL];omega
 ·simp only[S09.cL];omega
theorem S09.cO_mono(t b:Nat):∀{o o':Nat},o≤o'→S09.cO t b o≤S09.cO t b o':=by
 intro o o' h;induction o' with
 | zero=>obtain rfl:o=0:=by omega
         exact zD _
 | succ o' ih=>
   by_cases h2:o=o'+1
   ·subst h2;exact zD _
   ·have:=ih (by omega);have:=S09.cL_mono t o' (S09.cO t b o') 2;simp only[S09.cO];omega
theorem S09.cT_mono:∀{t t':Nat},t≤t'→S09.cT t≤S09.cT t':=by
 intro t t' h;induction t' with
 | zero=>obtain rfl:t=0:=by omega
         exact zD _
 | succ t' ih=>
   by_cases h2:t=t'+1
   ·subst h2;exact zD _
   ·have:=ih (by omega);have h3:=S09.cO_mono t' (S09.cT t') (zcA (t'+1));have h4:S09.cO t' (S09.cT t') 0=S09.cT t':=rfl;have h5:S09.cT (t'+1)=S09.cO t' (S09.cT t') (t'+1):=rfl;omega
theorem S09.cnt_total{t o l t' o' l':Nat}(hlt:t<t')(ho:o≤t)(hl:l<2):S09.cnt t o l≤S09.cnt t' o' l':=by
 have h1:S09.cnt t o l≤S09.cO t (S09.cT t) (o+1):=S09.cL_two _ _ _ _ hl;have h2:=S09.cO_mono t (S09.cT t) (show o+1≤t+1 by omega);have h3:S09.cT (t+1)=S09.cO t (S09.cT t) (t+1):=rfl;have h4:=S09.cT_mono (show t+1≤t' by omega);have h5:=S09.cO_mono t' (S09.cT t') (zcA o');have h6:S09.cO t' (S09.cT t') 0=S09.cT t':=rfl;have h7:S09.cO t' (S09.cT t') o'≤S09.cnt t' o' l':=S09.cL_mono _ _ _ _;omega
theorem rankHit09(n z o l s0:Int)(f:Bool)(bw bs bf B:Nat)(w:World)(hw:Blk w bw (zcY z o l) 156)(hs:Blk w bs [.int .i64 s0] 3)(hf:Blk w bf [.bool f] 4)
 (h1:B≤bs) (h2:B≤bf) (h3:B≤w.heap.size) (d1:¬bw=bs) (d2:¬bw=bf) (d3:¬bs=bf) :
 Calls Tryz.prog 157 #[.int .i64 n,S09.hist z o l,.pointer (some ⟨bw,0,none⟩),.pointer (some ⟨bs,0,none⟩),.pointer (some ⟨bf,0,none⟩)] w fun e w'=>
  e = .returned (.bool false)∧Blk w' bw (zcY z o l) 156∧Blk w' bs [.int .i64 n] 3∧Blk w' bf [.bool true] 4∧Below B w w':=by
 have c1:=hs.cell 0;have c2:=hw.cell 0;have c3:=hw.cell 1;have c4:=hw.cell 2;have c5:=hf.cell 0;have f1:=hs.free 0;have f5:=hf.free 0;have l1:=hs.lt;have l2:=hw.lt;have l3:=hf.lt;simp only[zcY,lgz,lgs]at c1 c2 c3 c4 c5;have Hs:=zB hs;have Hw:=zB hw;have Hf:=zB hf;clear hs hw hf;go_enter Tryz.func157,Tryz.ntmps157;go_wp2;go_returns;exact⟨rfl,((Hw.out.other bs 0 _ d1).other bf 0 _ d2).alloc _,((Hs.out.set 0 _).other bf 0 _ d3).alloc _,((Hf.out.other bs 0 _ (Ne.symm d3)).set 0 _).alloc _,(((zF _ _).setCell h1 _).setCell h2 _).alloc (by simp;omega) _⟩
theorem rankMiss09(n z o l wz wo wl s0:Int)(f:Bool)(bw bs bf B:Nat)(w:World)(hw:Blk w bw (zcY wz wo wl) 156)(hs:Blk w bs [.int .i64 s0] 3)(hf:Blk w bf [.bool f] 4)
 (h3:B≤w.heap.size) (hne:¬(z=wz∧o=wo∧l=wl)) (g1:0≤z) (g2:z≤100) (g3:0≤o) (g4:o≤100) (g5:0≤wz) (g6:wz≤100) (g7:0≤wo) (g8:wo≤100) :
 Calls Tryz.prog 157 #[.int .i64 n,S09.hist z o l,.pointer (some ⟨bw,0,none⟩),.pointer (some ⟨bs,0,none⟩),.pointer (some ⟨bf,0,none⟩)] w fun e w'=>
  e = .returned (.bool (!f&&decide (z+o≤wz+wo)))∧Blk w' bw (zcY wz wo wl) 156∧Blk w' bs [.int .i64 s0] 3∧Blk w' bf [.bool f] 4∧Below B w w':=by
 have c1:=hs.cell 0;have c2:=hw.cell 0;have c3:=hw.cell 1;have c4:=hw.cell 2;have c5:=hf.cell 0;have l1:=hs.lt;have l2:=hw.lt;have l3:=hf.lt;simp only[zcY,lgz,lgs]at c1 c2 c3 c4 c5;have Hs:=zB hs;have Hw:=zB hw;have Hf:=zB hf;clear hs hw hf;cases f with
 | true=>
   go_enter Tryz.func157,Tryz.ntmps157;go_wp2;all_goals (go_returns;exact⟨zaP (by first|rfl|(simp;done)|(simp;omega)),Hw.out.alloc _,Hs.out.alloc _,Hf.out.alloc _,(zF _ _).alloc h3 _⟩)
 | false=>
   go_enter Tryz.func157,Tryz.ntmps157;go_wp2;all_goals (go_returns;exact⟨zaP (by first|rfl|(simp;done)|(simp;omega)),Hw.out.alloc _,Hs.out.alloc _,Hf.out.alloc _,(zF _ _).alloc h3 _⟩)
def zuE(W:World)(B:Nat)(z o l:Int)(bw bs bf:Nat)(k:Nat)(w:World):Prop:=
 Blk w bw (zcY z o l) 156∧Blk w bs [.int .i64 (if S09.is z o l=true∧S09.idx z o l<k then S09.idx z o l else 0)] 3∧Blk w bf [.bool (decide (S09.is z o l=true∧S09.idx z o l<k))] 4∧Below B W w
theorem rankVisits09(W:World)(B:Nat)(z o l:Int)(bw bs bf:Nat)(h1:B≤bs)(h2:B≤bf)(h3:B≤W.heap.size)(d1:¬bw=bs)(d2:¬bw=bf)(d3:¬bs=bf)(g5:0≤z)(g6:z≤100)(g7:0≤o)(g8:o≤100) :
 S09.Visits 157 #[.pointer (some ⟨bw,0,none⟩),.pointer (some ⟨bs,0,none⟩),.pointer (some ⟨bf,0,none⟩)] (zuE W B z o l bw bs bf)
  (fun t o' l'=> !decide (S09.is z o l=true∧S09.idx z o l<(S09.cnt t o' l'+1:Nat))&&decide ((t:Int)≤z+o)):=by
 intro t o' l' w ht ho hl hok ⟨hw,hs,hf,hB⟩;have hBw:B≤w.heap.size:=yC h3 hB.size;by_cases he:(t:Int)-o'=z∧(o':Int)=o∧(l':Int)=l
 ·obtain⟨rfl,rfl,rfl⟩:=he;have his:S09.is ((t:Int)-o') o' l'=true:=hok;have hidx:S09.idx ((t:Int)-o') o' l'=S09.cnt t o' l':=by
   simp only[S09.idx,his,if_true];rw[show((t:Int)-o'+o').toNat=t by omega];simp
  refine(rankHit09 (S09.cnt t o' l') ((t:Int)-o') o' l' _ _ bw bs bf B w hw hs hf h1 h2 hBw d1 d2 d3).mono ?_;rintro e w' ⟨rfl,hw',hs',hf',hB'⟩;have hp:S09.is ((t:Int)-o') o' l'=true∧S09.idx ((t:Int)-o') o' l'<((S09.cnt t o' l'+1:Nat):Int):=⟨his,by rw[hidx];omega⟩;refine⟨by simp only[zQ hp];rfl,hw',?_,?_,hB.trans hB'⟩
  ·rw[zO hp,hidx];exact hs'
  ·rw[zQ hp];exact hf'
 ·have hiff:(S09.is z o l=true∧S09.idx z o l<((S09.cnt t o' l'+1:Nat):Int))↔(S09.is z o l=true∧S09.idx z o l<((S09.cnt t o' l':Nat):Int)):=by
   constructor
   ·rintro⟨hi,hlt⟩;refine⟨hi,?_⟩;obtain⟨t2,o2,l2,k1,k2,k3,rfl,rfl,rfl,k4,k5⟩:=S09.is_place hi;rw[k5]at hlt⊢
    have hne:S09.cnt t2 o2 l2≠S09.cnt t o' l':=fun e=>by
     obtain⟨rfl,rfl,rfl⟩:=S09.place_inj k1 k2 k3 k4 ht ho hl hok e;exact he ⟨rfl,rfl,rfl⟩
    omega
   ·rintro⟨hi,hlt⟩;exact⟨hi,by omega⟩
  have hd:decide (S09.is z o l=true∧S09.idx z o l<((S09.cnt t o' l'+1:Nat):Int))=decide (S09.is z o l=true∧S09.idx z o l<((S09.cnt t o' l':Nat):Int)):=by rw[decide_eq_decide];exact hiff
  refine(rankMiss09 (S09.cnt t o' l') ((t:Int)-o') o' l' z o l _ _ bw bs bf B w hw hs hf hBw he (by omega) (by omega) (by omega) (by omega) g5 g6 g7 g8).mono ?_;rintro e w' ⟨rfl,hw',hs',hf',hB'⟩;refine⟨?_,hw',?_,?_,hB.trans hB'⟩
  ·simp only[hd];rw[show(t:Int)-o'+o'=t by omega]
  ·by_cases hc:S09.is z o l=true∧S09.idx z o l<((S09.cnt t o' l':Nat):Int)
   ·rw[zO (hiff.2 hc)];rw[zO hc]at hs';exact hs'
   ·rw[zG (fun h=>hc (hiff.1 h))];rw[zG hc]at hs';exact hs'
  ·rw[hd];exact hf'
theorem rankEnd09{W w':World}{B:Nat}{z o l:Int}{bw bs bf:Nat}
 (h:S09.Visited (zuE W B z o l bw bs bf) (fun t o' l'=> !decide (S09.is z o l=true∧S09.idx z o l<(S09.cnt t o' l'+1:Nat))&&decide ((t:Int)≤z+o)) w') :
 Blk w' bs [.int .i64 (S09.idx z o l)] 3∧Blk w' bf [.bool (S09.is z o l)] 4∧Below B W w':=by
 obtain⟨k,hk,hw,hs,hf,hB⟩:∃k:Nat,(S09.is z o l=true→S09.idx z o l<(k:Int))∧zuE W B z o l bw bs bf k w':=by
  rcases h with h|⟨t,o',l',ht,ho,hl,hok,hgo,h⟩
  ·refine⟨215,fun hi=> ?_,h⟩;obtain⟨t2,o2,l2,k1,k2,k3,rfl,rfl,rfl,k4,k5⟩:=S09.is_place hi;have:=S09.cnt_lt k1 k2 k3 k4;omega
  ·refine⟨_,fun hi=> ?_,h⟩;by_cases hlt:S09.idx z o l<((S09.cnt t o' l'+1:Nat):Int)
   ·exact hlt
   ·have hdf:decide (S09.is z o l=true∧S09.idx z o l<((S09.cnt t o' l'+1:Nat):Int))=false:=yD (fun h=>hlt h.2);simp only[hdf,Bool.not_false,zcN]at hgo;have hgo:=of_decide_eq_false hgo;obtain⟨t2,o2,l2,k1,k2,k3,rfl,rfl,rfl,k4,k5⟩:=S09.is_place hi;have:=S09.cnt_total (t:=t2) (o:=o2) (l:=l2) (t':=t) (o':=o') (l':=l') (by omega) k2 k3;omega
 refine⟨?_,?_,hB⟩
 ·cases hi:S09.is z o l with
  | true=>rw[zO ⟨hi,hk hi⟩]at hs;exact hs
  | false=>
    rw[zG (by simp[hi])]at hs;simp only[S09.idx,hi];exact hs
 ·cases hi:S09.is z o l with
  | true=>rw[zQ ⟨hi,hk hi⟩]at hf;exact hf
  | false=>rw[yD (by simp[hi])]at hf;exact hf
theorem zrW(z o l:Int)(w:World)(g5:0≤z)(g6:z≤100)(g7:0≤o)(g8:o≤100) :
 Calls Tryz.prog 155 #[S09.hist z o l] w fun e w'=>e = .returned (.tuple #[.int .i64 (S09.idx z o l),.bool (S09.is z o l)])∧Below w.heap.size w w':=by
 obtain⟨W,hW⟩:∃W,W=(((w.alloc (Obj.cells #[.int .i64 z,.int .i64 o,.int .i64 l] 156)).alloc (Obj.cells #[.int .i64 0] 3)).alloc (Obj.cells #[.bool false] 4)):=⟨_,rfl⟩;have hWs:W.heap.size=w.heap.size+3:=by rw[hW];simp
 have hBW:Below w.heap.size w W:=by rw[hW];go_grown
 have hinv:zuE W (w.heap.size+1) z o l w.heap.size (w.heap.size+1) (w.heap.size+1+1) 0 W:=by
  rw[hW];refine⟨((Blk.new w (zcY z o l) _).alloc _).alloc _,?_,?_,zF _ _⟩
  ·have:¬(S09.is z o l=true∧S09.idx z o l<((0:Nat):Int)):=by
    rintro⟨hi,hlt⟩;obtain⟨t2,o2,l2,k1,k2,k3,rfl,rfl,rfl,k4,k5⟩:=S09.is_place hi;omega
   rw[zG this];have:=(Blk.new (w.alloc (Obj.cells #[.int .i64 z,.int .i64 o,.int .i64 l] 156)) [.int .i64 0] 3).alloc (Obj.cells #[.bool false] 4);simpa using this
  ·have:¬(S09.is z o l=true∧S09.idx z o l<((0:Nat):Int)):=by
    rintro⟨hi,hlt⟩;obtain⟨t2,o2,l2,k1,k2,k3,rfl,rfl,rfl,k4,k5⟩:=S09.is_place hi;omega
   rw[yD this];have:=Blk.new ((w.alloc (Obj.cells #[.int .i64 z,.int .i64 o,.int .i64 l] 156)).alloc (Obj.cells #[.int .i64 0] 3)) [.bool false] 4;simpa using this
 have hcall:=zmD 157 enterRank _ _ _ ?hst (rankVisits09 W (w.heap.size+1) z o l w.heap.size (w.heap.size+1) (w.heap.size+1+1) (zD _) (by omega) (by omega) (by omega) (by omega) (by omega) g5 g6 g7 g8) _ hinv
 case hst=>
  rintro k w1 w2 ⟨g1,g2,g3,g4⟩ hb;exact⟨g1.step hb,g2.step hb,g3.step hb,g4.trans (hb.mono (yC (by omega) g4.size))⟩
 have Hcall:=zB hcall;rw[hW]at Hcall;clear hcall hinv;have HWs:=zB hWs;have HBW:=zB hBW;have HW:=zB hW;clear hWs hBW hW;go_enter Tryz.func155,Tryz.ntmps155;go_wp2_with fail;refine Hcall.out.mono ?_;rintro e w1 ⟨rfl,hvis⟩;obtain⟨hbs,hbf,hB⟩:=rankEnd09 hvis;rw[←HW.out]at hB;have c1:=hbs.cell 0;have c2:=hbf.cell 0;simp only[lgz]at c1 c2;have hBw:Below w.heap.size w w1:=HBW.out.trans (hB.mono (by omega));clear hvis hB hbs hbf;go_wp2
 go_region
 all_goals go_wp2
 all_goals go_returns
 all_goals exact⟨rfl,hBw.drew⟩
