/- A part of the proof of L14s. No condition. -/
import Derived.Deep.RegionHeld3
import Derived.Test.YtieeogndnhighaaGreatZL14saq
import Derived.Test.YtieeogndnhighaaGreatZL14sbf
set_option linter.all false
set_option maxRecDepth 100000
set_option maxHeartbeats 200000
namespace Go.Proofs.YtieeogndnhighaaGreat
open Go.RowKit
structure OR13 where
 b:Nat
 cap:Nat
 l:List Int
def OR13.head(r:OR13):Value:=.slice (some ⟨r.b,0,none⟩) r.l.length r.cap
def OR13.ok(w:World)(base:Nat)(r:OR13):Prop:=base≤r.b∧r.l.length≤r.cap∧r.cap≤9223372036854775807∧∃cs,Blk w r.b cs 3∧cs.take r.l.length=zbU r.l
theorem OR13.ok.other{w:World}{base c i:Nat}{cs:List Value}{t:TypeId}{v:Value}{r:OR13}(h:r.ok w base)(hc:Blk w c cs t)(ht:¬t=3):r.ok (w.setCell ⟨c,i,none⟩ v) base:=by
 obtain⟨h1,h2,h3,cs',h4,h5⟩:=h;refine⟨h1,h2,h3,cs',h4.other _ _ _ ?_,h5⟩;intro e;rw[e]at h4;unfold Blk at h4 hc;rw[h4]at hc;simp at hc;exact ht hc.2.symm
def ORs(w:World)(base:Nat)(R:List OR13):Prop:=(∀r∈R,r.ok w base)∧R.Pairwise fun x y=>x.b<y.b
theorem ORs.other{w:World}{base c i:Nat}{cs:List Value}{t:TypeId}{v:Value}{R:List OR13}(h:ORs w base R)(hc:Blk w c cs t)(ht:¬t=3):ORs (w.setCell ⟨c,i,none⟩ v) base R:=⟨fun r hr=>(h.1 r hr).other hc ht,h.2⟩
def MixOwn(n:Int)(L:List (List Int))(V:Value)(w:World):Prop:=
 ∃(R:List OR13) (a:Option Addr) (cap base:Nat),L=R.map OR13.l∧V = .agg #[.int .i64 n,.slice a R.length cap]∧w.ownsRow base 39 1 (.slice a R.length cap) R.length (R.map OR13.head)∧ORs w base R
theorem MixOwn.other{n:Int}{L:List (List Int)}{V:Value}{w:World}{b i:Nat}{cs:List Value}{t:TypeId}{v:Value}(h:MixOwn n L V w)(hb:Blk w b cs t)(h1:¬t=3)(h2:¬39=t):MixOwn n L V (w.setCell ⟨b,i,none⟩ v):=by
 obtain⟨R,a,cap,base,h0,h0',k1,k2⟩:=h;exact⟨R,a,cap,base,h0,h0',k1.kept (zeL w b i v) (.inr (zgY k1 hb h2)),k2.other hb h1⟩
