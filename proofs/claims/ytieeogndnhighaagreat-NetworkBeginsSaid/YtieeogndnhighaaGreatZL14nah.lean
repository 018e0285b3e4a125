/- A part of the proof of L14n. No condition. -/
import Derived.Deep.Light
import Derived.Handy
import Derived.Test.YtieeogndnhighaaGreatRows
import Derived.WalkLawsBesides
import Derived.WalkSpells
import Derived.Test.YtieeogndnhighaaGreatZL14nac
import Derived.Test.YtieeogndnhighaaGreatZL14nad
set_option linter.all false
set_option maxRecDepth 100000
set_option maxHeartbeats 400000
namespace Go.Proofs.YtieeogndnhighaaGreat
open Go.RowKit
theorem zhG(p n limit:Int)(w:World) :
 Calls Tryz.prog 114 #[.agg #[.int .i64 p,.int .i64 n],.int .i64 limit] w fun e w'=>e = .returned (.int .i64 (S08.check p n limit))∧Below w.heap.size w w':=by
 go_enter Tryz.func114,Tryz.ntmps114;go_wp2;all_goals (go_returns;refine⟨zcF ?_,by go_grown⟩;go_light;unfold S08.check;(repeat' split)<;>omega)
theorem refPredict08_any(p n:Int)(w:World) :
 Calls Tryz.prog 117 #[.agg #[.int .i64 p,.int .i64 n]] w fun e w'=>e = .returned (.int .i64 (S08.predict p n))∧Below w.heap.size w w':=by
 go_enter Tryz.func117,Tryz.ntmps117;go_wp2;all_goals (go_returns;refine⟨zcF ?_,by go_grown⟩;go_light;unfold S08.predict;(repeat' split)<;>omega)
theorem zmN(p:Int)(b o:Nat)(w:World)(hc:w.cell? ⟨b,o,none⟩=some (.int .i64 p))(h1:0≤p)(h2:p≤65535) :
 Calls Tryz.prog 199 #[.pointer (some ⟨b,o,none⟩)] w fun e w'=>e = .returned (.bool true)∧w=w':=by
 go_enter Tryz.func199,Tryz.ntmps199;go_wp2;go_returns;exact⟨yZ (by simp[h1,h2]),rfl⟩
theorem zpA(p:Int)(b o:Nat)(w:World)(hc:w.cell? ⟨b,o,none⟩=some (.int .i64 p))(h:p<0∨65535<p) :
 Calls Tryz.prog 199 #[.pointer (some ⟨b,o,none⟩)] w fun e w'=>e = .returned (.bool false)∧w=w':=by
 rcases h with h|h
 ·go_enter Tryz.func199,Tryz.ntmps199;go_wp2;go_returns;exact⟨yZ (by simp<;>omega),rfl⟩
 ·have h':0≤p:=by omega
  go_enter Tryz.func199,Tryz.ntmps199;go_wp2;go_returns;exact⟨yZ (by simp<;>omega),rfl⟩
theorem zdG(p n limit:Int)(w:World) :
 Calls Tryz.prog 202 #[.agg #[.int .i64 p,.int .i64 n],.int .i64 limit] w fun e w'=>e = .returned (.int .i64 (S08.check p n limit))∧Below w.heap.size w w':=by
 by_cases hp:p<0∨65535<p
 ·go_enter Tryz.func202,Tryz.ntmps202;go_wp2_with (go_at_call 199;refine(zpA _ _ _ _ (by go_simp) hp).mono ?_;rintro e w' ⟨rfl,rfl⟩);all_goals (go_returns;refine⟨zcF ?_,by go_grown⟩;go_light;unfold S08.check;(repeat' split)<;>omega)
 ·have h1:0≤p:=by omega
  have h2:p≤65535:=by omega
  clear hp;go_enter Tryz.func202,Tryz.ntmps202;go_wp2_with (go_at_call 199;refine(zmN _ _ _ _ (by go_simp) h1 h2).mono ?_;rintro e w' ⟨rfl,rfl⟩);all_goals (go_returns;refine⟨zcF ?_,by go_grown⟩;go_light;unfold S08.check;(repeat' split)<;>omega)
theorem zqG(p n:Int)(w:World) :
 Calls Tryz.prog 194 #[.agg #[.int .i64 p,.int .i64 n]] w fun e w'=>e = .returned (.int .i64 (S08.predict p n))∧Below w.heap.size w w':=by
 by_cases hp:p<0∨65535<p
 ·go_enter Tryz.func194,Tryz.ntmps194;go_wp2_with (go_at_call 199;refine(zpA _ _ _ _ (by go_simp) hp).mono ?_;rintro e w' ⟨rfl,rfl⟩);all_goals (go_returns;refine⟨zcF ?_,by go_grown⟩;go_light;unfold S08.predict;(repeat' split)<;>omega)
 ·have h1:0≤p:=by omega
  have h2:p≤65535:=by omega
  clear hp;go_enter Tryz.func194,Tryz.ntmps194;go_wp2_with (go_at_call 199;refine(zmN _ _ _ _ (by go_simp) h1 h2).mono ?_;rintro e w' ⟨rfl,rfl⟩);all_goals (go_returns;refine⟨zcF ?_,by go_grown⟩;go_light;unfold S08.predict;(repeat' split)<;>omega)
