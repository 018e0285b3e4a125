/- A part of the proof of L14l. No condition. -/
import Derived.Deep.Light
import Derived.Handy
import Derived.Test.YthhgkafloejjiaaGreatRows
import Derived.WalkLawsBesides
import Derived.WalkSpells
import Derived.Test.YthhgkafloejjiaaGreatZL14laa
import Derived.Test.YthhgkafloejjiaaGreatZL14lad
set_option linter.all false
set_option maxRecDepth 100000
set_option maxHeartbeats 400000
namespace Go.Proofs.YthhgkafloejjiaaGreat
open Go.RowKit
theorem zcL(p n a:Int)(w:World) :
 Calls Tryz.prog 109 #[.agg #[p,n],a] w fun e b=>e = .returned (.int .i64 (S08.check p n a))∧Below w w b:=by
 go_enter Tryz.func109,Tryz.ntmps109;go_wp2;all_goals (go_returns;refine⟨zbM ?_,by go_grown⟩;go_light;unfold S08.check;(repeat' split)<;>omega)
theorem zfC(p n:Int)(w:World) :
 Calls Tryz.prog 77 #[.agg #[p,n]] w fun e a=>e = .returned (.int .i64 (S08.predict p n))∧Below w w a:=by
 go_enter Tryz.func77,Tryz.ntmps77;go_wp2;all_goals (go_returns;refine⟨zbM ?_,by go_grown⟩;go_light;unfold S08.predict;(repeat' split)<;>omega)
theorem zpM(p:Int)(b o:Nat)(w:World)(f:w.cell? ⟨b,o,none⟩=some (.int .i64 p))(d:0≤p)(a:p≤65535) :
 Calls Tryz.prog 168 #[.pointer (some ⟨b,o,none⟩)] w fun e c=>e = .returned (.bool true)∧w=c:=by
 go_enter Tryz.func168,Tryz.ntmps168;go_wp2;go_returns;exact⟨zaA (by simp[d,a]),rfl⟩
theorem zsN(p:Int)(b o:Nat)(w:World)(d:w.cell? ⟨b,o,none⟩=some (.int .i64 p))(h:p<0∨65535<p) :
 Calls Tryz.prog 168 #[.pointer (some ⟨b,o,none⟩)] w fun e a=>e = .returned (.bool false)∧w=a:=by
 rcases h with h|h
 ·go_enter Tryz.func168,Tryz.ntmps168;go_wp2;go_returns;exact⟨zaA by6,rfl⟩
 ·have c:0≤p:=by omega
  go_enter Tryz.func168,Tryz.ntmps168;go_wp2;go_returns;exact⟨zaA by6,rfl⟩
theorem zeM(p n b:Int)(w:World) :
 Calls Tryz.prog 171 #[.agg #[p,n],b] w fun e a=>e = .returned (.int .i64 (S08.check p n b))∧Below w w a:=by
 by_cases c:p<0∨65535<p
 ·go_enter Tryz.func171,Tryz.ntmps171;go_wp2_with (go_at_call 168;refine(zsN _ _ _ _ (by go_simp) c).mono ?_;rintro e a ⟨rfl,rfl⟩);all_goals (go_returns;refine⟨zbM ?_,by go_grown⟩;go_light;unfold S08.check;(repeat' split)<;>omega)
 ·have f:0≤p:=by omega
  have d:p≤65535:=by omega
  clear c;go_enter Tryz.func171,Tryz.ntmps171;go_wp2_with (go_at_call 168;refine(zpM _ _ _ _ (by go_simp) f d).mono ?_;rintro e a ⟨rfl,rfl⟩);all_goals (go_returns;refine⟨zbM ?_,by go_grown⟩;go_light;unfold S08.check;(repeat' split)<;>omega)
theorem zhD(p n:Int)(w:World) :
 Calls Tryz.prog 163 #[.agg #[p,n]] w fun e a=>e = .returned (.int .i64 (S08.predict p n))∧Below w w a:=by
 by_cases b:p<0∨65535<p
 ·go_enter Tryz.func163,Tryz.ntmps163;go_wp2_with (go_at_call 168;refine(zsN _ _ _ _ (by go_simp) b).mono ?_;rintro e a ⟨rfl,rfl⟩);all_goals (go_returns;refine⟨zbM ?_,by go_grown⟩;go_light;unfold S08.predict;(repeat' split)<;>omega)
 ·have d:0≤p:=by omega
  have c:p≤65535:=by omega
  clear b;go_enter Tryz.func163,Tryz.ntmps163;go_wp2_with (go_at_call 168;refine(zpM _ _ _ _ (by go_simp) d c).mono ?_;rintro e a ⟨rfl,rfl⟩);all_goals (go_returns;refine⟨zbM ?_,by go_grown⟩;go_light;unfold S08.predict;(repeat' split)<;>omega)
