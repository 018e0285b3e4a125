/- A part of the proof of L15. No condition. -/
import Derived.Lib.Hide
import Derived.WalkKit
import Derived.Test.YtahaacfikalheaaGreatZL15aa
set_option linter.all false
set_option maxRecDepth 100000
set_option maxHeartbeats 200000
namespace Go.Proofs.YtahaacfikalheaaGreat
open Go.RowKit
theorem zeF{a b:Int}(h:a=b):Ending.returned (.int .i64 a) = .returned (.int .i64 b):=by rw[h]
theorem zaP{a b:Bool}(h:a=b):Ending.returned (.bool a) = .returned (.bool b):=by rw[h]
theorem zA{w0 W w1:World}(h1:Below w0.heap.size w0 W)(h2:Below W.heap.size W w1):Below w0.heap.size w0 w1:=h1.trans (h2.mono h1.size)
def Blk(w:World)(b:Nat)(cs:List Value)(t:TypeId):Prop:=w.heap[b]? = some (.cells cs.toArray t (0,0))
theorem Blk.lt{w:World}{b:Nat}{cs:List Value}{t:TypeId}(h:Blk w b cs t):b<w.heap.size:=by
 unfold Blk at h;exact(Array.getElem?_eq_some_iff.1 h).1
theorem Blk.cell{w:World}{b:Nat}{cs:List Value}{t:TypeId}(h:Blk w b cs t)(i:Nat):w.cell? ⟨b,i,none⟩=cs[i]? :=by
 rw[cell_of_row w b i _ t _ h];simp
theorem Blk.free{w:World}{b:Nat}{cs:List Value}{t:TypeId}(h:Blk w b cs t)(i:Nat):w.frozen? ⟨b,i,none⟩=false:=frozen_of_row w b i _ t h
theorem Blk.step{w w':World}{b:Nat}{cs:List Value}{t:TypeId}(h:Blk w b cs t)(hb:Below w.heap.size w w'):Blk w' b cs t:=by
 unfold Blk at *;rw[hb.block b (Array.getElem?_eq_some_iff.1 h).1];exact h
theorem Blk.below{w w':World}{b B:Nat}{cs:List Value}{t:TypeId}(h:Blk w b cs t)(hb:Below B w w')(hB:b<B):Blk w' b cs t:=by
 unfold Blk at *;rw[hb.block b hB];exact h
theorem Blk.set{w:World}{b:Nat}{cs:List Value}{t:TypeId}(h:Blk w b cs t)(i:Nat)(v:Value):Blk (w.setCell ⟨b,i,none⟩ v) b (cs.set i v) t:=by
 unfold Blk at *;rw[heap_setCell_same w b i _ t v h];simp
theorem Blk.other{w:World}{b:Nat}{cs:List Value}{t:TypeId}(h:Blk w b cs t)(c i:Nat)(v:Value)(hne:¬b=c):Blk (w.setCell ⟨c,i,none⟩ v) b cs t:=by
 unfold Blk at *;rw[heap_setCell_other w ⟨c,i,none⟩ b v hne];exact h
theorem Blk.alloc{w:World}{b:Nat}{cs:List Value}{t:TypeId}(h:Blk w b cs t)(o:Obj):Blk (w.alloc o) b cs t:=by
 unfold Blk at *;rw[Below.heap_alloc w o b (Array.getElem?_eq_some_iff.1 h).1];exact h
theorem Blk.drew{w:World}{b:Nat}{cs:List Value}{t:TypeId}(h:Blk w b cs t):Blk w.drew b cs t:=h
theorem Blk.new(w:World)(cs:List Value)(t:TypeId):Blk (w.alloc (.cells cs.toArray t)) w.heap.size cs t:=heap_alloc_new w _
theorem Blk.cells{w:World}{b:Nat}{cs:List Value}{t:TypeId}(h:Blk w b cs t):w.rangeAt b 0 cs:=fun j v hv=>by rw[yK,h.cell j];exact hv
theorem zcD{w w':World}{b o:Nat}{cs:List Value}(h:w.rangeAt b o cs)(hb:Below w.heap.size w w'):w'.rangeAt b o cs:=fun j v hv=>by
 have:=h j v hv;rw[hb.cell (zL this)];exact this
def Rd(w:World)(a:Option Addr)(vals:List Value):Prop:=vals≠ []→∃b o,a=some ⟨b,o,none⟩∧w.rangeAt b o vals
theorem Rd.step{w w':World}{a:Option Addr}{vals:List Value}(h:Rd w a vals)(hb:Below w.heap.size w w'):Rd w' a vals:=fun hne=>
 let ⟨b,o,e,hr⟩:=h hne;⟨b,o,e,zcD hr hb⟩
theorem Rd.at{w:World}{a:Option Addr}{vals:List Value}(h:Rd w a vals){i:Nat}(hi:i<vals.length):∃b o,a=some ⟨b,o,none⟩∧∀j (hj:j<vals.length),w.cell? ⟨b,o+j,none⟩=some vals[j]:=by
 obtain⟨b,o,e,hr⟩:=h (fun e=>by rw[e]at hi;simp at hi);exact⟨b,o,e,fun j hj=>hr j _ (zE hj)⟩
theorem Rd.nil(w:World)(a:Option Addr):Rd w a []:=fun h=>absurd rfl h
theorem Rd.below{w w':World}{B:Nat}{a:Option Addr}{vals:List Value}(h:Rd w a vals)(hb:Below B w w')(hB:∀b o,a=some ⟨b,o,none⟩→vals≠ []→b<B):Rd w' a vals:=fun hne=>by
 obtain⟨b,o,e,hr⟩:=h hne;refine⟨b,o,e,fun j v hv=> ?_⟩;have:=hr j v hv;rw[hb.cell (p:=⟨b,o+j,none⟩) (hB b o e hne)];exact this
