/- A part of the proof of L15. No condition. -/
import Derived.Test.YtahaacfikalheaaGreatZL15bd
set_option linter.all false
set_option maxRecDepth 100000
set_option maxHeartbeats 1000000
namespace Go.Proofs.YtahaacfikalheaaGreat
open Go.RowKit
attribute [local irreducible] Go.wpList
namespace S14
def fewC(l:List C):Bool:=decide (l.length≤40) && !l.any (fun c=>decide (6<c.bits∧c.bits≤16))
theorem fewC_iff{l:List C}:fewC l=true↔l.length≤40∧∀c∈l,¬(6<c.bits∧c.bits≤16):=by
 unfold fewC;simp only[zS,zY,Bool.not_eq_true',List.any_eq_false]
end S14
theorem fewC14_any(l:List S14.C)(a:Option Addr)(cap:Nat)(w:World)(hrd:Rd w a (zhK l)) :
 Calls Tryz.prog 11 #[.slice a l.length cap] w fun e w'=>e = .returned (.bool (S14.fewC l))∧Below w.heap.size w w':=by
 obtain⟨R,hR⟩:∃R,S14.fewC l=R:=⟨_,rfl⟩;rw[hR];have HR:=zB hR;clear hR;by_cases h40:40<l.length
 ·have hz:(40:Int)<l.length:=by omega
  obtain rfl:R=false:=by rw[←HR.out];unfold S14.fewC;rw[yD (by omega)];rfl
  clear h40;go_enter Tryz.func11,Tryz.ntmps11;go_wp2;go_returns;exact⟨rfl,zF _ _⟩
 have hz:¬(40:Int)<l.length:=by omega
 have Hrd:=zB hrd;have hl40:l.length≤40:=by omega
 clear hrd h40;go_enter Tryz.func11,Tryz.ntmps11;go_wp2;go_loopw [3] (fun i wr=>∃k:Nat,k≤l.length∧i = .int .i64 (k:Int)∧RowKit.Hid (∀(j:Nat) (x:S14.C),j<k→l[j]? = some x→¬(6<x.bits∧x.bits≤16))∧Below w.heap.size w wr) (fun i _=>l.length-(intOf i).toNat)
 case atStart=>exact⟨0,by omega,rfl,zB (fun j x hj=>by omega),zF _ _⟩
 case round=>
  obtain⟨k,hk,rfl,hall,hB⟩:=hrel;by_cases hlt:k<l.length
  ·obtain⟨x,hx⟩:∃x,l[k]? = some x:=⟨_,zE hlt⟩;obtain⟨g,o,rfl,hcs⟩:=(Hrd.out.step hB) (fun e=>by have h1:=yS List.length e;rw[zbB]at h1;simp at h1;omega);obtain⟨_,x1,_,_,_,_⟩:=zsN hcs hx;have hkz:(k:Int)<(l.length:Int):=by omega
   have Hx:=zB hx;clear hcs hx;obtain⟨b,hb⟩:∃b,x.bits=b:=⟨_,rfl⟩;rw[hb]at x1;have Hb:=zB hb;clear hb;by_cases c1:6<b
   ·by_cases c2:b≤16
    ·obtain rfl:R=false:=by
      rw[←HR.out,Bool.eq_false_iff];intro e;exact(S14.fewC_iff.1 e).2 x (zdB Hx.out) ⟨by rw[Hb.out];exact c1,by rw[Hb.out];exact c2⟩
     go_wp2;go_returns;exact⟨rfl,hB⟩
    ·have Hn:Hid (∀(j:Nat) (x:S14.C),j<k+1→l[j]? = some x→¬(6<x.bits∧x.bits≤16)):=zB fun j z hj hz=>by
      rcases zaE j k with h|h
      ·exact hall.out j z h hz
      ·obtain rfl:j=k:=by omega
       rw[Hx.out]at hz;cases hz;rw[Hb.out];exact fun h=>c2 h.2
     go_wp2;go_roundw
     case rel=>exact⟨k+1,by omega,by go_num,Hn,hB⟩
     case measure=>simp[intOf];omega
   ·have Hn:Hid (∀(j:Nat) (x:S14.C),j<k+1→l[j]? = some x→¬(6<x.bits∧x.bits≤16)):=zB fun j z hj hz=>by
     rcases zaE j k with h|h
     ·exact hall.out j z h hz
     ·obtain rfl:j=k:=by omega
      rw[Hx.out]at hz;cases hz;rw[Hb.out];exact fun h=>c1 h.1
    go_wp2;go_roundw
    case rel=>exact⟨k+1,by omega,by go_num,Hn,hB⟩
    case measure=>simp[intOf];omega
  ·obtain rfl:k=l.length:=by omega
   obtain rfl:R=true:=by
    rw[←HR.out,S14.fewC_iff];refine⟨hl40,fun c hc=> ?_⟩;obtain⟨j,hj⟩:=List.getElem?_of_mem hc;exact hall.out j c (List.getElem?_eq_some_iff.1 hj).1 hj
   go_wp2;go_returns;exact⟨rfl,hB⟩
