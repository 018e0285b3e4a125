/- A part of the proof of L14l. No condition. -/
import Derived.Laws.AppendOwn
import Derived.Laws.Tables
import Derived.Test.YthhgkafloejjiaaGreatZL14lad
set_option linter.all false
set_option maxRecDepth 100000
set_option maxHeartbeats 200000
namespace Go.Proofs.YthhgkafloejjiaaGreat
open Go.RowKit
theorem Blk.keptRow{w w':World}{b:Nat}{a:List Value}{t:TypeId}{c:Option Nat}(h:Blk w b a t)(f:w.grownBy w' c)(e:some b≠c):Blk w' b a t:=by
 have d:=h.lt;unfold Blk at *;rw[f.block b d e];exact h
theorem yA{w w':World}{b B:Nat}(h:w.grownBy w' (some b))(d:B≤b)(a:B≤w.heap.size):Below B w w':=
 ⟨h.os,h.tape,h.output,h.size,fun i c=>h.block i (zbA c a) (fun e=>by cases e;omega)⟩
theorem zmA{w:World}{b:Nat}{c:List Value}{t:TypeId}(h:Blk w b c t)(a:Array Value):Blk (w.setRow b a) b a.toList t∧w.grownBy (w.setRow b a) (some b):=by
 unfold Blk at *;refine⟨?_,⟨rfl,rfl,rfl,by simp[World.setRow],fun i f d=> ?_⟩⟩
 ·rw[setRow_heap w b _ a t _ h]
 ·exact setRow_other w b i a (fun e=>d (by rw[e]))
theorem zcS{P:Program}{w:World}{e:Array Oper}{f:List Oper}{o:Oper}{a:Act}{Q:Exit→Act→World→Prop}(T:TypeId)(x:Operand)(k:o.guard=none)(j:o.op = .load T x)
 (b:Nat) (n:a.eval x = .pointer (some ⟨b,0,none⟩)) (c:List Value) (t:TypeId) (g:Blk w b c t) (d:TypeDesc) (l:P.underlying T=some d) (i:d.isRow=true) (m:(P.info? T).map (·.size)=some c.length)
 (h:wpList P e Q f (a.put o.dst (.agg c.toArray)) w):wpList P e Q (o::f) a w:=
 wpList_load_mid k T x j b 0 n c d g.cells l i m h
theorem zfJ{P:Program}{w:World}{f:Array Oper}{g:List Oper}{o:Oper}{a:Act}{Q:Exit→Act→World→Prop}(T:TypeId)(x y:Operand)(l:o.guard=none)(k:o.op = .store T x y)
 (b:Nat) (s:a.eval x = .pointer (some ⟨b,0,none⟩)) (c:List Value) (n:a.eval y = .agg c.toArray) (e:List Value) (t:TypeId) (i:Blk w b e t) (p:(P.info? T).map (·.size)=some c.length) (j:e.length=c.length)
 (q:∀v∈c,v.oneCell'=true) (h:∀d,Blk d b c t→w.grownBy d (some b)→d.heap.size=w.heap.size→wpList P f Q g (a.put o.dst undef) d):wpList P f Q (o::g) a w:=by
 obtain⟨m,r⟩:=zmA i c.toArray;refine wpList_store_row l T x y k b c.toArray s n t e.toArray i (by simpa using p) (by simpa using j) (all_oneCell_toArray q) (h _ ?_ r ?_)
 ·simpa using m
 ·simp[World.setRow]
