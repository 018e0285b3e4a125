/- A part of the proof of L14l. No condition. -/
import Derived.Lib.Hide
import Derived.WalkKit
import Derived.Test.YthhgkafloejjiaaGreatZL14lab
set_option linter.all false
set_option maxRecDepth 100000
set_option maxHeartbeats 200000
namespace Go.Proofs.YthhgkafloejjiaaGreat
open Go.RowKit
theorem zbM{a b:Int}(h:a=b):Ending.returned (.int .i64 a) = .returned (.int .i64 b):=by rw[h]
theorem zaA{a b:Bool}(h:a=b):Ending.returned (.bool a) = .returned (.bool b):=by rw[h]
theorem zA{a W c:World}(b:Below a a W)(d:Below W W c):Below a a c:=b.trans (d.mono b.size)
def Blk(w:World)(b:Nat)(cs:List Value)(t:TypeId):Prop:=w.heap[b]? = some (.cells cs.toArray t (0,0))
theorem Blk.lt{w:World}{b:Nat}{a:List Value}{t:TypeId}(h:Blk w b a t):b<w.heap.size:=by
 unfold Blk at h;exact(Array.getElem?_eq_some_iff.1 h).1
theorem Blk.cell{w:World}{b:Nat}{a:List Value}{t:TypeId}(h:Blk w b a t)(i:Nat):w.cell? ⟨b,i,none⟩=a[i]? :=by
 rw[cell_of_row w b i _ t _ h];simp
theorem Blk.free{w:World}{b:Nat}{a:List Value}{t:TypeId}(h:Blk w b a t)(i:Nat):w.frozen? ⟨b,i,none⟩=false:=frozen_of_row w b i _ t h
theorem Blk.step{w w':World}{b:Nat}{a:List Value}{t:TypeId}(h:Blk w b a t)(c:Below w w w'):Blk w' b a t:=by
 unfold Blk at *;rw[c.block b (Array.getElem?_eq_some_iff.1 h).1];exact h
theorem Blk.below{w w':World}{b B:Nat}{a:List Value}{t:TypeId}(h:Blk w b a t)(c:Below B w w')(d:b<B):Blk w' b a t:=by
 unfold Blk at *;rw[c.block b d];exact h
theorem Blk.set{w:World}{b:Nat}{a:List Value}{t:TypeId}(h:Blk w b a t)(i:Nat)(v:Value):Blk (w.setCell ⟨b,i,none⟩ v) b (a.set i v) t:=by
 unfold Blk at *;rw[heap_setCell_same w b i _ t v h];simp
theorem Blk.other{w:World}{b:Nat}{a:List Value}{t:TypeId}(h:Blk w b a t)(c i:Nat)(v:Value)(d:¬b=c):Blk (w.setCell ⟨c,i,none⟩ v) b a t:=by
 unfold Blk at *;rw[heap_setCell_other w ⟨c,i,none⟩ b v d];exact h
theorem Blk.alloc{w:World}{b:Nat}{a:List Value}{t:TypeId}(h:Blk w b a t)(o:Obj):Blk (w.alloc o) b a t:=by
 unfold Blk at *;rw[Below.heap_alloc w o b (Array.getElem?_eq_some_iff.1 h).1];exact h
theorem Blk.drew{w:World}{b:Nat}{a:List Value}{t:TypeId}(h:Blk w b a t):Blk w.drew b a t:=h
theorem Blk.new(w:World)(a:List Value)(t:TypeId):Blk (w.alloc (.cells a.toArray t)) w.heap.size a t:=heap_alloc_new w _
theorem Blk.cells{w:World}{b:Nat}{a:List Value}{t:TypeId}(h:Blk w b a t):w.rangeAt b 0 a:=fun j v c=>by rw[yE,h.cell j];exact c
theorem yV{w w':World}{b o:Nat}{a:List Value}(h:w.rangeAt b o a)(c:Below w w w'):w'.rangeAt b o a:=fun j v d=>by
 have:=h j v d;rw[c.cell (zE this)];exact this
def Rd(w:World)(a:Option Addr)(vals:List Value):Prop:=vals≠ []→∃b o,a=some ⟨b,o,none⟩∧w.rangeAt b o vals
theorem Rd.step{w w':World}{a:Option Addr}{vals:List Value}(h:Rd w a vals)(c:Below w w w'):Rd w' a vals:=fun d=>
 let ⟨b,o,e,hr⟩:=h d;⟨b,o,e,yV hr c⟩
theorem Rd.at{w:World}{a:Option Addr}{vals:List Value}(h:Rd w a vals){i:Nat}(d:i<vals.length):∃b o,a=some ⟨b,o,none⟩∧∀j (c:j<vals.length),w.cell? ⟨b,o+j,none⟩=some vals[j]:=by
 obtain⟨b,o,e,f⟩:=h (fun e=>by rw[e]at d;simp at d);exact⟨b,o,e,fun j c=>f j _ (zD c)⟩
theorem Rd.nil(w:World)(a:Option Addr):Rd w a []:=fun h=>absurd rfl h
theorem Rd.below{w w':World}{B:Nat}{a:Option Addr}{vals:List Value}(h:Rd w a vals)(f:Below B w w')(i:∀b o,a=some ⟨b,o,none⟩→vals≠ []→b<B):Rd w' a vals:=fun c=>by
 obtain⟨b,o,e,d⟩:=h c;refine⟨b,o,e,fun j v g=> ?_⟩;have:=d j v g;rw[f.cell (p:=⟨b,o+j,none⟩) (i b o e c)];exact this
theorem Blk.c2{w:World}{b:Nat}{t:TypeId}{c a:Value}{r:List Value}(h:Blk w b (c::a::r) t):w.cell? ⟨b,0,none⟩=some c∧w.cell? ⟨b,1,none⟩=some a:=⟨h.cell 0,h.cell 1⟩
theorem Blk.c3{w:World}{b:Nat}{t:TypeId}{d a c:Value}{r:List Value}(h:Blk w b (d::a::c::r) t):w.cell? ⟨b,0,none⟩=some d∧w.cell? ⟨b,1,none⟩=some a∧w.cell? ⟨b,2,none⟩=some c:=⟨h.cell 0,h.cell 1,h.cell 2⟩
theorem Blk.c4{w:World}{b:Nat}{t:TypeId}{e c d a:Value}{r:List Value}(h:Blk w b (e::c::d::a::r) t):w.cell? ⟨b,0,none⟩=some e∧w.cell? ⟨b,1,none⟩=some c∧w.cell? ⟨b,2,none⟩=some d∧w.cell? ⟨b,3,none⟩=some a:=⟨h.cell 0,h.cell 1,h.cell 2,h.cell 3⟩
theorem Blk.c5{w:World}{b:Nat}{t:TypeId}{f d e c a:Value}{r:List Value}(h:Blk w b (f::d::e::c::a::r) t):w.cell? ⟨b,0,none⟩=some f∧w.cell? ⟨b,1,none⟩=some d∧w.cell? ⟨b,2,none⟩=some e∧w.cell? ⟨b,3,none⟩=some c∧w.cell? ⟨b,4,none⟩=some a:=⟨h.cell 0,h.cell 1,h.cell 2,h.cell 3,h.cell 4⟩
theorem Blk.c6{w:World}{b:Nat}{t:TypeId}{f d e c a g:Value}{r:List Value}(h:Blk w b (f::d::e::c::a::g::r) t):w.cell? ⟨b,0,none⟩=some f∧w.cell? ⟨b,1,none⟩=some d∧w.cell? ⟨b,2,none⟩=some e∧w.cell? ⟨b,3,none⟩=some c∧w.cell? ⟨b,4,none⟩=some a∧w.cell? ⟨b,5,none⟩=some g:=⟨h.cell 0,h.cell 1,h.cell 2,h.cell 3,h.cell 4,h.cell 5⟩
theorem Blk.c9{w:World}{b:Nat}{t:TypeId}{i e f d c j g k a:Value}{r:List Value}(h:Blk w b (i::e::f::d::c::j::g::k::a::r) t):w.cell? ⟨b,0,none⟩=some i∧w.cell? ⟨b,1,none⟩=some e∧w.cell? ⟨b,2,none⟩=some f∧w.cell? ⟨b,3,none⟩=some d∧w.cell? ⟨b,4,none⟩=some c∧w.cell? ⟨b,5,none⟩=some j∧w.cell? ⟨b,6,none⟩=some g∧w.cell? ⟨b,7,none⟩=some k∧w.cell? ⟨b,8,none⟩=some a:=⟨h.cell 0,h.cell 1,h.cell 2,h.cell 3,h.cell 4,h.cell 5,h.cell 6,h.cell 7,h.cell 8⟩
theorem Blk.c16{w:World}{b:Nat}{t:TypeId}{j f g d c n i e a o s l k m q p:Value}{r:List Value}(h:Blk w b (j::f::g::d::c::n::i::e::a::o::s::l::k::m::q::p::r) t):w.cell? ⟨b,0,none⟩=some j∧w.cell? ⟨b,1,none⟩=some f∧w.cell? ⟨b,2,none⟩=some g∧w.cell? ⟨b,3,none⟩=some d∧w.cell? ⟨b,4,none⟩=some c∧w.cell? ⟨b,5,none⟩=some n∧w.cell? ⟨b,6,none⟩=some i∧w.cell? ⟨b,7,none⟩=some e∧w.cell? ⟨b,8,none⟩=some a∧w.cell? ⟨b,9,none⟩=some o∧w.cell? ⟨b,10,none⟩=some s∧w.cell? ⟨b,11,none⟩=some l∧w.cell? ⟨b,12,none⟩=some k∧w.cell? ⟨b,13,none⟩=some m∧w.cell? ⟨b,14,none⟩=some q∧w.cell? ⟨b,15,none⟩=some p:=⟨h.cell 0,h.cell 1,h.cell 2,h.cell 3,h.cell 4,h.cell 5,h.cell 6,h.cell 7,h.cell 8,h.cell 9,h.cell 10,h.cell 11,h.cell 12,h.cell 13,h.cell 14,h.cell 15⟩
theorem al1(w:World)(A:List Value)(T:TypeId):∃W,w.alloc (.cells A.toArray T)=W∧Blk W w.heap.size A T∧Below w.heap.size w W:=⟨_,rfl,Blk.new w _ _,(Below.refl _ _).alloc (Nat.le_refl _) _⟩
theorem al2(w:World)(A C:List Value)(S T:TypeId):∃W,(w.alloc (.cells A.toArray S)).alloc (.cells C.toArray T)=W∧Blk W w.heap.size A S∧Blk W (w.heap.size+1) C T∧Below w.heap.size w W:=⟨_,rfl,(Blk.new w _ _).alloc _,by
 have h:=Blk.new (w.alloc (.cells A.toArray S)) C T;rwa[World.size_alloc]at h,((Below.refl _ _).alloc (Nat.le_refl _) _).alloc (by simp) _⟩
theorem zz2.{u,v}{α:Sort u}{β:Sort v}(a:α)(b:β):∃x y,a=x∧b=y:=⟨_,_,rfl,rfl⟩
theorem zz3.{u,v,z}{α:Sort u}{β:Sort v}{γ:Sort z}(a:α)(b:β)(c:γ):∃x y i,a=x∧b=y∧c=i:=⟨_,_,_,rfl,rfl,rfl⟩
theorem zz4.{u,v,z,y}{α:Sort u}{β:Sort v}{γ:Sort z}{δ:Sort y}(a:α)(b:β)(c:γ)(d:δ):∃x y i j,a=x∧b=y∧c=i∧d=j:=⟨_,_,_,_,rfl,rfl,rfl,rfl⟩
theorem by4{p:Prop}(h:p:=by simp[Value.oneCell']):p:=h
theorem by5{p:Prop}(h:p:=by unfold maxLen;omega):p:=h
theorem by6{p:Prop}(h:p:=by simp<;>omega):p:=h
theorem by7{p:Prop}(h:p:=by simp;omega):p:=h
