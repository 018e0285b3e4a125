/- A part of the proof of L15. No condition. -/
import Derived.BigQuiet
import Derived.Deep.QuietTactic
import Derived.Test.YtahaacfikalheaaGreatZL15ag
import Derived.Test.YtahaacfikalheaaGreatZL15aq
set_option linter.all false
set_option maxRecDepth 100000
set_option maxHeartbeats 200000
namespace Go.Proofs.YtahaacfikalheaaGreat
open Go.RowKit
theorem zbQ{w:World}{base:Nat}{e t:TypeId}{n cap b:Nat}{a:Option Addr}{xs cs:List Value}(h:w.ownsRow base e 1 (.slice a n cap) n xs)(hb:Blk w b cs t)(hne:¬e=t):(Value.slice a n cap).ownBlock≠some b:=by
 intro hg;rcases h.2 with⟨h',_⟩|⟨g2,cap',cur,h',_,hg2,_⟩
 ·simp at h';obtain⟨rfl,_,_⟩:=h';simp[Value.ownBlock]at hg
 ·simp only[Value.slice.injEq]at h';obtain⟨rfl,_,_⟩:=h';simp[Value.ownBlock]at hg;subst hg;unfold Blk at hb;rw[hb]at hg2;simp at hg2;exact hne hg2.2.symm
theorem ownS{w w':World}{base:Nat}{e:TypeId}{size n:Nat}{v:Value}{xs:List Value}(h:w.ownsRow base e size v n xs)(hb:Below w.heap.size w w'):w'.ownsRow base e size v n xs:=yX (B:=0) h hb
theorem zaJ(w:World)(b i:Nat)(v:Value):w.grownBy (w.setCell ⟨b,i,none⟩ v) (some b):=
 ⟨rfl,rfl,rfl,by simp,fun j _ hne=>heap_setCell_other w ⟨b,i,none⟩ j v (fun e=>hne (by rw[e]))⟩
