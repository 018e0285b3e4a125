/- A part of the proof of L15. No condition. -/
import Derived.Laws.AppendOwn
import Derived.Laws.Tables
import Derived.Test.YtahaacfikalheaaGreatZL15ad
set_option linter.all false
set_option maxRecDepth 100000
set_option maxHeartbeats 200000
namespace Go.Proofs.YtahaacfikalheaaGreat
open Go.RowKit
theorem Blk.keptRow{w w':World}{b:Nat}{cs:List Value}{t:TypeId}{row:Option Nat}(h:Blk w b cs t)(hg:w.grownBy w' row)(hne:some b≠row):Blk w' b cs t:=by
 have hl:=h.lt;unfold Blk at *;rw[hg.block b hl hne];exact h
theorem yG{w w':World}{b B:Nat}(h:w.grownBy w' (some b))(hb:B≤b)(hB:B≤w.heap.size):Below B w w':=
 ⟨h.os,h.tape,h.output,h.size,fun i hi=>h.block i (zaF hi hB) (fun e=>by cases e;omega)⟩
theorem zrT{w:World}{b:Nat}{old:List Value}{t:TypeId}(h:Blk w b old t)(cells:Array Value):Blk (w.setRow b cells) b cells.toList t∧w.grownBy (w.setRow b cells) (some b):=by
 unfold Blk at *;refine⟨?_,⟨rfl,rfl,rfl,by simp[World.setRow],fun i hi hne=> ?_⟩⟩
 ·rw[setRow_heap w b _ cells t _ h]
 ·exact setRow_other w b i cells (fun e=>hne (by rw[e]))
theorem yA{P:Program}{w:World}{ops:Array Oper}{rest:List Oper}{o:Oper}{a:Act}{Q:Exit→Act→World→Prop}(T:TypeId)(x:Operand)(hgd:o.guard=none)(ho:o.op = .load T x)
 (b:Nat) (hx:a.eval x = .pointer (some ⟨b,0,none⟩)) (cs:List Value) (t:TypeId) (hB:Blk w b cs t) (d:TypeDesc) (hu:P.underlying T=some d) (hd:d.isRow=true) (hi:(P.info? T).map (·.size)=some cs.length)
 (h:wpList P ops Q rest (a.put o.dst (.agg cs.toArray)) w):wpList P ops Q (o::rest) a w:=
 wpList_load_mid hgd T x ho b 0 hx cs d hB.cells hu hd hi h
theorem zT{P:Program}{w:World}{ops:Array Oper}{rest:List Oper}{o:Oper}{a:Act}{Q:Exit→Act→World→Prop}(T:TypeId)(x y:Operand)(hgd:o.guard=none)(ho:o.op = .store T x y)
 (b:Nat) (hx:a.eval x = .pointer (some ⟨b,0,none⟩)) (cs:List Value) (hy:a.eval y = .agg cs.toArray) (old:List Value) (t:TypeId) (hB:Blk w b old t) (hi:(P.info? T).map (·.size)=some cs.length) (hold:old.length=cs.length)
 (h1:∀v∈cs,v.oneCell'=true) (h:∀w',Blk w' b cs t→w.grownBy w' (some b)→w'.heap.size=w.heap.size→wpList P ops Q rest (a.put o.dst undef) w'):wpList P ops Q (o::rest) a w:=by
 obtain⟨k1,k2⟩:=zrT hB cs.toArray;refine wpList_store_row hgd T x y ho b cs.toArray hx hy t old.toArray hB (by simpa using hi) (by simpa using hold) (all_oneCell_toArray h1) (h _ ?_ k2 ?_)
 ·simpa using k1
 ·simp[World.setRow]
