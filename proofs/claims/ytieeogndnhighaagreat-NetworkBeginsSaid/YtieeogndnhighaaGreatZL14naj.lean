/- A part of the proof of L14n. No condition. -/
import Derived.Handy
import Derived.Test.YtieeogndnhighaaGreatRows
import Derived.WalkLawsBesides
import Derived.WalkSpells
import Derived.Test.YtieeogndnhighaaGreatZL14nad
set_option linter.all false
set_option maxRecDepth 100000
set_option maxHeartbeats 200000
namespace Go.Proofs.YtieeogndnhighaaGreat
open Go.RowKit
theorem zaM(n:Nat)(hn:n≤60)(w:World):Calls Tryz.prog 64 #[.int .i64 (n:Int)] w fun e w'=>e = .returned (.int .i64 ((2^n:Nat):Int))∧Below w.heap.size w w':=by
 obtain⟨p,hp⟩:∃p:Nat→Nat,p=fun k=>2^k:=⟨_,rfl⟩;have e0:p 0=1:=by rw[hp]
 have en:2^n=p n:=by rw[hp]
 have es:∀k,p (k+1)=2*p k:=fun k=>by rw[hp];show 2^(k+1)=2*2^k;rw[Nat.pow_succ];omega
 have eb:∀k,k≤60→p k≤1152921504606846976:=fun k hk=>by rw[hp];exact zfQ (n:=2) (by omega) hk
 rw[en];have E0:=zD e0;have Es:=zD es;have Eb:=zD eb;clear hp en e0 es eb;go_enter Tryz.func64,Tryz.ntmps64;go_wp2
 go_loopw [3,4] (fun t i wr=>∃k:Nat,k≤n∧t = .int .i64 (p k:Int)∧i = .int .i64 (k:Int)∧Below w.heap.size w wr)
  (fun _ i _=>n-(intOf i).toNat)
 case atStart=>exact⟨0,by omega,by rw[E0.out];rfl,rfl,zG _ _⟩
 case round=>
  obtain⟨k,hk,rfl,rfl,hB⟩:=hrel;by_cases hlt:k<n
  ·have e1:=Es.out k;have e2:=Eb.out k (by omega);generalize p k=m at *;generalize hpk:p (k+1)=m' at *;have Hpk:=zD hpk;have Hb:=zD e1;have e3:wrap64 (2*(m:Int))=2*(m:Int):=IntWalk.wrap64_in _ ⟨by omega,by omega⟩;clear hpk e1;go_wp2;go_roundw
   case rel=>exact⟨k+1,by omega,by rw[Hpk.out,Hb.out];simp,by simp,hB⟩
   case measure=>simp[intOf];omega
  ·obtain rfl:k=n:=by omega
   go_wp2;go_returns;exact⟨rfl,hB⟩
