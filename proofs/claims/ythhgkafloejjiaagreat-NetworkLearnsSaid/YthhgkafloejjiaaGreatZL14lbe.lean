/- A part of the proof of L14l. No condition. -/
import Derived.Test.YthhgkafloejjiaaGreatZL14lay
set_option linter.all false
set_option maxRecDepth 100000
set_option maxHeartbeats 1000000
namespace Go.Proofs.YthhgkafloejjiaaGreat
open Go.RowKit
attribute [local irreducible] Go.wpList
namespace S14
def fewC(l:List C):Bool:=decide (l.length≤40) && !l.any (fun c=>decide (6<c.bits∧c.bits≤16))
theorem fewC_iff{l:List C}:fewC l=true↔l.length≤40∧∀c∈l,¬(6<c.bits∧c.bits≤16):=by
 unfold fewC;simp only[zS,yC,Bool.not_eq_true',List.any_eq_false]
end S14
theorem fewC14_any(l:List S14.C)(a:Option Addr)(cap:Nat)(w:World)(C:Rd w a (zfG l)) :
 Calls Tryz.prog 9 #[.slice a l.length cap] w fun e H=>e = .returned (.bool (S14.fewC l))∧Below w w H:=by
 obtain⟨R,u⟩:=zvJ (S14.fewC l);rw[u];have p:=zC u;clear u;by_cases y:40<l.length
 ·have d:(40:Int)<l.length:=by omega
  obtain rfl:R=false:=by rw[←p.out];unfold S14.fewC;rw[zL om];rfl
  clear y;go_enter Tryz.func9,Tryz.ntmps9;go_wp2;go_returns;exact⟨rfl,zJ _ _⟩
 have d:¬(40:Int)<l.length:=by omega
 have F:=zC C;have I:l.length≤40:=by omega
 clear C y;go_enter Tryz.func9,Tryz.ntmps9;go_wp2;go_loopw [3] (fun i wr=>∃k:Nat,k≤l.length∧i = .int .i64 (k:Int)∧RowKit.Hid (∀(j:Nat) (x:S14.C),j<k→l[j]? = some x→¬(6<x.bits∧x.bits≤16))∧Below w w wr) (fun i _=>l.length-(intOf i).toNat)
 case atStart=>exact⟨0,by omega,rfl,zC (fun j x m=>by omega),zJ _ _⟩
 case round=>
  obtain⟨k,M,rfl,s,f⟩:=hrel;by_cases G:k<l.length
  ·obtain⟨x,v⟩:∃x,l[k]? = some x:=⟨_,zD G⟩;obtain⟨g,o,rfl,D⟩:=(F.out.step f) (fun e=>by have E:=yG List.length e;rw[zaB]at E;simp at E;omega);obtain⟨_,K,_,_,_,_⟩:=zoF D v;have L:(k:Int)<(l.length:Int):=by omega
   have q:=zC v;clear D v;obtain⟨b,t⟩:=zvJ x.bits;rw[t]at K;have n:=zC t;clear t;by_cases B:6<b
   ·by_cases A:b≤16
    ·obtain rfl:R=false:=by
      rw[←p.out,Bool.eq_false_iff];intro e;exact(S14.fewC_iff.1 e).2 x (yF q.out) ⟨by rw[n.out];exact B,by rw[n.out];exact A⟩
     exact mf1 f
    ·have r:Hid (∀(j:Nat) (x:S14.C),j<k+1→l[j]? = some x→¬(6<x.bits∧x.bits≤16)):=zC fun j z m d=>by
      rcases yU j k with h|h
      ·exact s.out j z h d
      ·obtain rfl:j=k:=by omega
       rw[q.out]at d;cases d;rw[n.out];exact fun h=>A h.2
     go_wp2;go_roundw
     case rel=>exact⟨k+1,by omega,by go_num,r,f⟩
     case measure=>simp[intOf];omega
   ·have r:Hid (∀(j:Nat) (x:S14.C),j<k+1→l[j]? = some x→¬(6<x.bits∧x.bits≤16)):=zC fun j z m d=>by
     rcases yU j k with h|h
     ·exact s.out j z h d
     ·obtain rfl:j=k:=by omega
      rw[q.out]at d;cases d;rw[n.out];exact fun h=>B h.1
    go_wp2;go_roundw
    case rel=>exact⟨k+1,by omega,by go_num,r,f⟩
    case measure=>simp[intOf];omega
  ·obtain rfl:k=l.length:=by omega
   obtain rfl:R=true:=by
    rw[←p.out,S14.fewC_iff];refine⟨I,fun c J=> ?_⟩;obtain⟨j,m⟩:=List.getElem?_of_mem J;exact s.out j c (List.getElem?_eq_some_iff.1 m).1 m
   exact mf1 f
