/- A part of the proof of L14l. No condition. -/
import Derived.Handy
import Derived.Test.YthhgkafloejjiaaGreatZL14lad
set_option linter.all false
set_option maxRecDepth 100000
set_option maxHeartbeats 200000
namespace Go.Proofs.YthhgkafloejjiaaGreat
open Go.RowKit
theorem mf1{p q:Prop}(b:q)(h:q→p:=by intro a;go_wp2;go_returns;exact⟨rfl,a⟩):p:=h b
theorem mf2{p q:Prop}(b:q)(h:q→p:=by intro a;go_returns;exact⟨rfl,a⟩):p:=h b
theorem mf3{p q:Prop}(b:q)(h:q→p:=by intro a;go_returns;exact⟨by first|rfl|simp,a⟩):p:=h b
theorem zo{p:Prop}(h:p:=by go_grown):p:=h
theorem mf4{p:Prop}(h:p:=by go_wp2;go_returns;exact⟨rfl,by go_grown⟩):p:=h
theorem mnx{P:Program}{f:FuncId}{args:Array Value}{w:World}{V:Value}{Q:Ending→World→Prop}(b:World)(H:Calls P f args w fun e a=>e = .returned V∧Below w.heap.size w a)(k:∀a,Below w.heap.size w a→Below b.heap.size b a→b.heap.size≤a.heap.size→Q (.returned V) a)(h:Below b.heap.size b w:=by go_grown):Calls P f args w Q:=H.mono fun e a ⟨g,c⟩=>by
 have d:=zA h c;exact g▸k a c d d.size
theorem mnb{P:Program}{f:FuncId}{args:Array Value}{w b:World}{V:Value}{Q:Ending→World→Prop}(g:Below b.heap.size b w)(H:Calls P f args w fun e a=>e = .returned V∧Below w.heap.size w a)(k:∀a,Below w.heap.size w a→Below b.heap.size b a→Q (.returned V) a):Calls P f args w Q:=H.mono fun e a ⟨d,c⟩=>d▸k a c (zA g c)
