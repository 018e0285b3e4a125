/- A part of the proof of L15. No condition. -/
import Derived.Laws.BytesArg
import Derived.Test.YtahaacfikalheaaGreatZL15bj
import Derived.Test.YtahaacfikalheaaGreatZL15bv
set_option linter.all false
set_option maxRecDepth 100000
set_option maxHeartbeats 2000000
namespace Go.Proofs.YtahaacfikalheaaGreat
open Go.RowKit
structure CC15(l:List S14.C)(cs:List (List Nat))(n:Nat)(e:Ending):Prop where
 ex:∃b:Bool,e = .returned (.bool b)∧(b=true→S14.check l=0∧(∀x∈cs,x.length≤16)∧cs.length≤40∧n≤24)
theorem CC15.no(l:List S14.C)(cs:List (List Nat))(n:Nat):CC15 l cs n (.returned (.bool false)):=⟨⟨false,rfl,fun e=>by cases e⟩⟩
theorem zqP(l:List S14.C)(cs:List (List Nat))(n:Nat)(a ac ad:Option Addr)(hv:List Value)(cap cc cd:Nat)(w:World)(hrl:Rd w a (zhK l))(hC:CX w ac hv cs) :
 Calls Tryz.prog 5 #[.slice a l.length cap,.slice ac cs.length cc,.slice ad n cd] w fun e w'=>CC15 l cs n e∧Below w.heap.size w w':=by
 have HF:=zB (fewC14_any l a cap w hrl);have HR:=zB fun(hl:l.length≤4611686018427387904) W (hb:Below w.heap.size w W)=>rcheck14_any l a cap W hl (hrl.step hb);have HC:=zB hC;obtain⟨R,hR⟩:∃R,S14.fewC l=R:=⟨_,rfl⟩;rw[hR]at HF
 have hl:R=true→l.length≤4611686018427387904:=fun e=>by
  rw[e]at hR;have:=(S14.fewC_iff.1 hR).1;omega
 have Hl:=zB hl;obtain⟨q,hq⟩:∃q,l.length=q:=⟨_,rfl⟩;rw[hq]at HF HR Hl⊢;obtain⟨K,hK⟩:∃K,S14.check l=K:=⟨_,rfl⟩;rw[hK]at HR;have HK:=zB hK;obtain⟨m,hm⟩:∃m,cs.length=m:=⟨_,rfl⟩;have Hm:=zB hm;rw[hm];clear hrl hC hR hl hq hK hm;go_enter Tryz.func5,Tryz.ntmps5;go_wp2_with fail;refine HF.out.mono ?_;rintro e w1 ⟨rfl,hb1⟩;cases R with
 | false=>
   go_wp2;go_returns;exact⟨CC15.no _ _ _,hb1⟩
 | true=>
   have HR2:=zB (HR.out (Hl.out rfl) w1 hb1);clear HR Hl HF;go_wp2_with fail;refine HR2.out.mono ?_;rintro e w2 ⟨rfl,hb2⟩;have B2:=zA hb1 hb2;clear HR2 hb2 hb1;by_cases hK0:K=0
   ·subst hK0;by_cases h40:40<m
    ·have h40i:(40:Int)<(m:Int):=by omega
     go_wp2;go_returns;exact⟨CC15.no _ _ _,B2⟩
    ·have h40i:¬(40:Int)<(m:Int):=by omega
     by_cases h24:24<n
     ·have h24i:(24:Int)<(n:Int):=by omega
      go_wp2;go_returns;exact⟨CC15.no _ _ _,B2⟩
     ·have h24i:¬(24:Int)<(n:Int):=by omega
      go_wp2_with fail;go_loopw [29] (fun i wr=>∃k:Nat,k≤m∧i = .int .i64 (k:Int)∧Hid (∀(j:Nat) (x:List Nat),j<k→cs[j]? = some x→x.length≤16)∧Below w.heap.size w wr) (fun i _=>m-(intOf i).toNat)
      case atStart=>exact⟨0,by omega,rfl,zB (fun j x hj=>by omega),B2⟩
      case round=>
       obtain⟨k,hk,rfl,hall,hB⟩:=hrel;by_cases hlt:k<m
       ·obtain⟨x,hx⟩:∃x,cs[k]? = some x:=⟨_,zE (by rw[Hm.out];exact hlt)⟩;have hCr:=HC.out.step hB;obtain⟨aj,cj,hj,_⟩:=hCr.at_ k x hx;obtain⟨g,o,rfl,hcs⟩:=hCr.rd (fun e=>by rw[e]at hj;cases hj);have x1:=hcs k _ hj;have hkz:(k:Int)<(m:Int):=by omega
        have hk0:(0:Int)≤(k:Int):=by omega
        have Hx:=zB hx;obtain⟨t,ht⟩:∃t,x.length=t:=⟨_,rfl⟩;rw[ht]at x1;have Ht:=zB ht;clear hcs hx hCr hj ht;by_cases h16:16<t
        ·have h16i:(16:Int)<(t:Int):=by omega
         go_wp2;go_returns;exact⟨CC15.no _ _ _,hB⟩
        ·have h16i:¬(16:Int)<(t:Int):=by omega
         have hw3:IntKind.i64.wrap ((k:Int)+1)=(k:Int)+1:=IntWalk.i64_in _ (by omega)
         have Hn:Hid (∀(j:Nat) (x:List Nat),j<k+1→cs[j]? = some x→x.length≤16):=zB fun j z hj hz=>by
          rcases zaE j k with h|h
          ·exact hall.out j z h hz
          ·obtain rfl:j=k:=by omega
           rw[Hx.out]at hz;cases hz;have:=Ht.out;omega
         go_wp2;go_roundw
         case rel=>exact⟨k+1,by omega,by go_num,Hn,hB⟩
         case measure=>simp[intOf];omega
       ·obtain rfl:k=m:=by omega
        go_wp2;go_returns;refine⟨⟨true,rfl,fun _=>⟨HK.out,fun x hx=> ?_,by have:=Hm.out;omega,by omega⟩⟩,hB⟩;obtain⟨j,hj⟩:=List.getElem?_of_mem hx;exact hall.out j x (by have:=(List.getElem?_eq_some_iff.1 hj).1;have:=Hm.out;omega) hj
   ·have hKn:(K != 0)=true:=by simpa using hK0
    go_wp2;go_returns;exact⟨CC15.no _ _ _,B2⟩
theorem CX.nil15(w:World):CX w none [] []:=⟨rfl,Rd.nil _ _,fun j l h=>by cases h⟩
theorem zjI{P:List Nat→Nat}(hP:S15.Pr P)(bs:List Nat)(hb:bs.length≤200):S15.By (S15.fin (S15.encR P [] S15.E0 bs))∧(S15.fin (S15.encR P [] S15.E0 bs)).length≤1000:=by
 obtain⟨h1,h2⟩:=zjJ hP bs [] S15.E0 zmP (by decide);refine⟨fin_by h1 h2,?_⟩;have h3:=fin_len (S15.encR P [] S15.E0 bs);have h4:=zkN hP bs [] S15.E0 zmP (by decide);have h5:S15.E0.out.length=0:=rfl;omega
theorem cost_pos15{P:List Nat→Nat}(hP:S15.Pr P)(b:Nat)(bs h:List Nat):0<S15.costR P h (b::bs):=by
 have h1:0<S15.cost (P h) b:=by
  have:=hP h;have hq:1≤(if b=1 then P h else 4096-P h)∧(if b=1 then P h else 4096-P h)≤4095:=by split<;>omega
  have:=(zpU hq.1 hq.2).2;unfold S15.cost;omega
 rw[S15.costR];omega
theorem ztA{P:List Nat→Nat}(hP:S15.Pr P){data:List Nat}(hd:S15.By data):S15.bytes data.length (S15.decR P [] (S15.opn (S15.fin (S15.encR P [] S15.E0 (S15.bits data)))) (8*data.length))=data:=by
 have h:=codes_return hP (S15.bits data) (zoG data);rw[ziN]at h;rw[h,zsS data hd]
def ziW:List S14.C:=[⟨1,2,30,0,0,0⟩]
theorem znI:S14.check ziW=0:=by decide
