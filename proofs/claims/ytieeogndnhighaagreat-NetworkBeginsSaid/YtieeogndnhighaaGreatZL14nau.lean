/- A part of the proof of L14n. No condition. -/
import Derived.BigQuiet
import Derived.Deep.QuietTactic
import Derived.Test.YtieeogndnhighaaGreatZL14naf
import Derived.Test.YtieeogndnhighaaGreatZL14naq
set_option linter.all false
set_option maxRecDepth 100000
set_option maxHeartbeats 200000
namespace Go.Proofs.YtieeogndnhighaaGreat
open Go.RowKit
theorem sameInts_eq(xs:List Int)(a1 a2:Option Addr)(c1 c2:Nat)(w:World)(hlen:xs.length≤9223372036854775807)(hr1:Rd w a1 (zaO xs))(hr2:Rd w a2 (zaO xs)) :
 Calls Tryz.prog 113 #[.slice a1 xs.length c1,.slice a2 xs.length c2] w fun e w'=>e = .returned (.bool true)∧Below w.heap.size w w':=by
 go_enter Tryz.func113,Tryz.ntmps113;go_wp2;go_loopw [5] (fun i wr=>∃k:Nat,k≤xs.length∧i = .int .i64 k∧Below w.heap.size w wr) (fun i _=>xs.length-(intOf i).toNat)
 case atStart=>exact⟨0,by omega,rfl,zG _ _⟩
 case round=>
  obtain⟨k,hk,rfl,hB⟩:=hrel;have zr:w.heap.size≤wr.heap.size:=hB.size;by_cases hlt:k<xs.length
  ·obtain⟨g1,o1,rfl,hcs1⟩:=(hr1.step hB).at (i:=k) (by rw[yL];exact hlt);obtain⟨g2,o2,rfl,hcs2⟩:=(hr2.step hB).at (i:=k) (by rw[yL];exact hlt);have hc1:wr.cell? ⟨g1,o1+k,none⟩=some (.int .i64 xs[k]):=by rw[hcs1 k (by rw[yL];exact hlt)];simp[zaO]
   have hc2:wr.cell? ⟨g2,o2+k,none⟩=some (.int .i64 xs[k]):=by rw[hcs2 k (by rw[yL];exact hlt)];simp[zaO]
   generalize xs[k]=x at *;clear hcs1 hcs2;have hlt2:(k:Int)<xs.length:=by omega
   go_wp2;go_quiet (fail);go_wp2;go_roundw
   case rel=>exact⟨k+1,by omega,by go_num,zhO hB _⟩
   case measure=>simp[intOf];omega
  ·obtain rfl:k=xs.length:=by omega
   go_wp2;go_returns;exact⟨rfl,hB⟩
theorem zbR{w:World}{base:Nat}{e t:TypeId}{n cap b:Nat}{a:Option Addr}{xs cs:List Value}(h:w.ownsRow base e 1 (.slice a n cap) n xs)(hb:Blk w b cs t)(hne:¬e=t):(Value.slice a n cap).ownBlock≠some b:=by
 intro hg;rcases h.2 with⟨h',_⟩|⟨g2,cap',cur,h',_,hg2,_⟩
 ·simp at h';obtain⟨rfl,_,_⟩:=h';simp[Value.ownBlock]at hg
 ·simp only[Value.slice.injEq]at h';obtain⟨rfl,_,_⟩:=h';simp[Value.ownBlock]at hg;subst hg;unfold Blk at hb;rw[hb]at hg2;simp at hg2;exact hne hg2.2.symm
theorem ownS{w w':World}{base:Nat}{e:TypeId}{size n:Nat}{v:Value}{xs:List Value}(h:w.ownsRow base e size v n xs)(hb:Below w.heap.size w w'):w'.ownsRow base e size v n xs:=yO (B:=0) h hb
theorem zbK(w:World)(b i:Nat)(v:Value):w.grownBy (w.setCell ⟨b,i,none⟩ v) (some b):=
 ⟨rfl,rfl,rfl,by simp,fun j _ hne=>heap_setCell_other w ⟨b,i,none⟩ j v (fun e=>hne (by rw[e]))⟩
theorem equalInts_eq(xs:List Int)(a1 a2:Option Addr)(c1 c2:Nat)(w:World)(hlen:xs.length≤4611686018427387904)(hr1:Rd w a1 (zaO xs))(hr2:Rd w a2 (zaO xs)) :
 Calls Tryz.prog 24 #[.slice a1 xs.length c1,.slice a2 xs.length c2] w fun e w'=>e = .returned (.bool true)∧Below w.heap.size w w':=by
 go_enter Tryz.func24,Tryz.ntmps24;go_wp2;go_loopw [13] (fun i wr=>∃k:Nat,k≤xs.length∧i = .int .i64 k∧Below w.heap.size w wr) (fun i _=>xs.length-(intOf i).toNat)
 case atStart=>exact⟨0,by omega,rfl,zG _ _⟩
 case round=>
  obtain⟨k,hk,rfl,hB⟩:=hrel;have zr:w.heap.size≤wr.heap.size:=hB.size;by_cases hlt:k<xs.length
  ·obtain⟨g1,o1,rfl,hcs1⟩:=(hr1.step hB).at (i:=k) (by rw[yL];exact hlt);obtain⟨g2,o2,rfl,hcs2⟩:=(hr2.step hB).at (i:=k) (by rw[yL];exact hlt);have hc1:wr.cell? ⟨g1,o1+k,none⟩=some (.int .i64 xs[k]):=by rw[hcs1 k (by rw[yL];exact hlt)];simp[zaO]
   have hc2:wr.cell? ⟨g2,o2+k,none⟩=some (.int .i64 xs[k]):=by rw[hcs2 k (by rw[yL];exact hlt)];simp[zaO]
   generalize xs[k]=x at *;clear hcs1 hcs2;have hlt2:(k:Int)<xs.length:=by omega
   go_wp2;go_quiet (fail);go_wp2;go_roundw
   case rel=>exact⟨k+1,by omega,by go_num,zhO hB _⟩
   case measure=>simp[intOf];omega
  ·obtain rfl:k=xs.length:=by omega
   go_wp2;go_returns;exact⟨rfl,hB⟩
