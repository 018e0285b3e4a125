/- A part of the proof of L15. No condition. -/
import Derived.Deep.Light
import Derived.Handy
import Derived.Test.YtahaacfikalheaaGreatRows
import Derived.WalkLawsBesides
import Derived.WalkSpells
import Derived.Test.YtahaacfikalheaaGreatZL15ab
import Derived.Test.YtahaacfikalheaaGreatZL15ad
set_option linter.all false
set_option maxRecDepth 100000
set_option maxHeartbeats 400000
namespace Go.Proofs.YtahaacfikalheaaGreat
open Go.RowKit
theorem zoL(p:Int)(b o:Nat)(w:World)(hc:w.cell? ⟨b,o,none⟩=some (.int .i64 p))(h1:0≤p)(h2:p≤65535) :
 Calls Tryz.prog 129 #[.pointer (some ⟨b,o,none⟩)] w fun e w'=>e = .returned (.bool true)∧w=w':=by
 go_enter Tryz.func129,Tryz.ntmps129;go_wp2;go_returns;exact⟨zaP (by simp[h1,h2]),rfl⟩
theorem zrS(p:Int)(b o:Nat)(w:World)(hc:w.cell? ⟨b,o,none⟩=some (.int .i64 p))(h:p<0∨65535<p) :
 Calls Tryz.prog 129 #[.pointer (some ⟨b,o,none⟩)] w fun e w'=>e = .returned (.bool false)∧w=w':=by
 rcases h with h|h
 ·go_enter Tryz.func129,Tryz.ntmps129;go_wp2;go_returns;exact⟨zaP (by simp<;>omega),rfl⟩
 ·have h':0≤p:=by omega
  go_enter Tryz.func129,Tryz.ntmps129;go_wp2;go_returns;exact⟨zaP (by simp<;>omega),rfl⟩
theorem zeV(p n limit:Int)(w:World) :
 Calls Tryz.prog 132 #[.agg #[.int .i64 p,.int .i64 n],.int .i64 limit] w fun e w'=>e = .returned (.int .i64 (S08.check p n limit))∧Below w.heap.size w w':=by
 by_cases hp:p<0∨65535<p
 ·go_enter Tryz.func132,Tryz.ntmps132;go_wp2_with (go_at_call 129;refine(zrS _ _ _ _ (by go_simp) hp).mono ?_;rintro e w' ⟨rfl,rfl⟩);all_goals (go_returns;refine⟨zeF ?_,by go_grown⟩;go_light;unfold S08.check;(repeat' split)<;>omega)
 ·have h1:0≤p:=by omega
  have h2:p≤65535:=by omega
  clear hp;go_enter Tryz.func132,Tryz.ntmps132;go_wp2_with (go_at_call 129;refine(zoL _ _ _ _ (by go_simp) h1 h2).mono ?_;rintro e w' ⟨rfl,rfl⟩);all_goals (go_returns;refine⟨zeF ?_,by go_grown⟩;go_light;unfold S08.check;(repeat' split)<;>omega)
theorem zhA(p n:Int)(w:World) :
 Calls Tryz.prog 124 #[.agg #[.int .i64 p,.int .i64 n]] w fun e w'=>e = .returned (.int .i64 (S08.predict p n))∧Below w.heap.size w w':=by
 by_cases hp:p<0∨65535<p
 ·go_enter Tryz.func124,Tryz.ntmps124;go_wp2_with (go_at_call 129;refine(zrS _ _ _ _ (by go_simp) hp).mono ?_;rintro e w' ⟨rfl,rfl⟩);all_goals (go_returns;refine⟨zeF ?_,by go_grown⟩;go_light;unfold S08.predict;(repeat' split)<;>omega)
 ·have h1:0≤p:=by omega
  have h2:p≤65535:=by omega
  clear hp;go_enter Tryz.func124,Tryz.ntmps124;go_wp2_with (go_at_call 129;refine(zoL _ _ _ _ (by go_simp) h1 h2).mono ?_;rintro e w' ⟨rfl,rfl⟩);all_goals (go_returns;refine⟨zeF ?_,by go_grown⟩;go_light;unfold S08.predict;(repeat' split)<;>omega)
