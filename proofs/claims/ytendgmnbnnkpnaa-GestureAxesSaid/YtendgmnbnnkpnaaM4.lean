/- GestureAxes: the cases together (printed by m4.py's combos). -/
import Derived.Test.YtendgmnbnnkpnaaA1
import Derived.Test.YtendgmnbnnkpnaaA2
import Derived.Test.YtendgmnbnnkpnaaA3
import Derived.Test.YtendgmnbnnkpnaaA4
import Derived.Test.YtendgmnbnnkpnaaA5
import Derived.Test.YtendgmnbnnkpnaaA6
import Derived.WalkKit
import Derived.WalkSpells
import Derived.WalkLawsBesides
import Derived.Deep.QuietTactic
import Derived.BigQuiet
import Derived.BigRegion
import Derived.Lib.Hide
import Derived.Deep.RegionWith
set_option linter.unusedSimpArgs false
set_option linter.unusedVariables false
namespace Go.Proofs.Ytendgmnbnnkpnaa.G
open Go.RowKit
theorem axes_law (x y : Int) (hx : -128 ≤ x ∧ x ≤ 127) (hy : -128 ≤ y ∧ y ≤ 127) (w : World) :
    Calls Try.prog 6 #[.int .i8 x, .int .i8 y] w fun e w' => e = .returned (.bool true) ∧ Ext w w' := by
  have h4 : decide (mx x (-x) < mx y (-y)) = !decide (mx y (-y) ≤ mx x (-x)) := by
    rw [Bool.eq_iff_iff]; simp
  by_cases c1 : 8 < mx x (-x) <;> by_cases c2 : 8 < mx y (-y) <;> by_cases c3 : mx y (-y) ≤ mx x (-x)
  all_goals first | omega | skip
  all_goals
    first
    | rw [decide_eq_true c3] at h4
    | rw [decide_eq_false c3] at h4
  · exact axes_111 x y hx.1 hx.2 hy.1 hy.2 (decide_eq_true c1) (decide_eq_true c2) (decide_eq_true c3) h4 w
  · exact axes_110 x y hx.1 hx.2 hy.1 hy.2 (decide_eq_true c1) (decide_eq_true c2) (decide_eq_false c3) h4 w
  · exact axes_101 x y hx.1 hx.2 hy.1 hy.2 (decide_eq_true c1) (decide_eq_false c2) (decide_eq_true c3) h4 w
  · exact axes_010 x y hx.1 hx.2 hy.1 hy.2 (decide_eq_false c1) (decide_eq_true c2) (decide_eq_false c3) h4 w
  · exact axes_001 x y hx.1 hx.2 hy.1 hy.2 (decide_eq_false c1) (decide_eq_false c2) (decide_eq_true c3) h4 w
  · exact axes_000 x y hx.1 hx.2 hy.1 hy.2 (decide_eq_false c1) (decide_eq_false c2) (decide_eq_false c3) h4 w
end Go.Proofs.Ytendgmnbnnkpnaa.G
