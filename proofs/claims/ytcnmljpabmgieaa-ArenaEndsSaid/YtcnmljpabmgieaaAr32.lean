/- The reference's arena: refused. -/
import Derived.Test.YtcnmljpabmgieaaAr31
import Derived.WalkKit
import Derived.WalkSpells
import Derived.WalkLawsBesides
import Derived.Deep.QuietTactic
import Derived.BigQuiet
import Derived.BigRegion
import Derived.Lib.Hide
import Derived.Deep.RegionWith
set_option linter.unusedSimpArgs false
set_option linter.unusedVariables false
namespace Go.Proofs.Ytcnmljpabmgieaa.R
open Go.RowKit
set_option maxRecDepth 100000 in
set_option maxHeartbeats 4000000 in
theorem rRef_ok (a : Arn) (K M : Int) (la ha : Option Addr) (lc hc : Nat) (w : World) (hl : a.Left.length ≤ 1000000) (hl2 : a.Holds.length ≤ 1000000) (h1 : RepI w la a.Left) (h2 : RepI w ha a.Holds) :
    Calls Try.prog 41 #[.agg #[.int .i64 (a).Members, .slice la (a).Left.length lc, .bool (a).Open, .int .i64 (a).Eager, .slice ha (a).Holds.length hc, .bool (a).Swept, .int .i64 (a).Winner, .bool (a).Done], .agg #[.int .i64 K, .int .i64 M]] w fun e w' => e = .returned (.int .i64 (rref a ⟨K, M⟩)) ∧ Ext w w' := by
  obtain ⟨Z, hZ⟩ : ∃ Z, Z = rref a ⟨K, M⟩ := ⟨_, rfl⟩
  rw [← hZ]
  have hH1 := Lib.hid fun w' (he : Ext w w') => rHas_ok a.Left M la lc w' hl (h1.ext he)
  have hH2 := Lib.hid fun w' (he : Ext w w') => rHas_ok a.Holds M ha hc w' hl2 (h2.ext he)
  obtain ⟨n, hn⟩ : ∃ n, n = a.Left.length := ⟨_, rfl⟩
  obtain ⟨nh, hnh⟩ : ∃ n, n = a.Holds.length := ⟨_, rfl⟩
  rw [← hn] at hH1 ⊢
  rw [← hnh] at hH2 ⊢
  clear h1 h2 hl hl2 hn hnh
  unfold rref at hZ
  simp only at hZ
  rcases b1 : decide (K < 1) with _ | _
  rotate_left
  focus
    rw [b1] at hZ
    replace hZ := Lib.hid hZ
    go_enter Try.func41, Try.ntmps41
    go_wp2
    go_ret
    exact ⟨by rw [hZ.out]; rfl, by (repeat (first | exact Ext.refl _ | assumption | refine Ext.alloc ?_ _ | refine Ext.ext ?_ _ | refine Ext.drew ?_))⟩
  rcases b2 : decide (6 < K) with _ | _
  rotate_left
  focus
    rw [b1, b2] at hZ
    replace hZ := Lib.hid hZ
    go_enter Try.func41, Try.ntmps41
    go_wp2
    go_ret
    exact ⟨by rw [hZ.out]; rfl, by (repeat (first | exact Ext.refl _ | assumption | refine Ext.alloc ?_ _ | refine Ext.ext ?_ _ | refine Ext.drew ?_))⟩
  rw [b1, b2] at hZ
  simp only [decide_eq_false_iff_not] at b1 b2
  rcases hD : a.Done with _ | _
  rotate_left
  focus
    rw [hD] at hZ
    have c1 : decide (K < 1) = false := decide_eq_false b1
    have c2 : decide (6 < K) = false := decide_eq_false b2
    clear b1 b2
    replace hZ := Lib.hid hZ
    go_enter Try.func41, Try.ntmps41
    go_wp2
    go_ret
    exact ⟨by rw [hZ.out]; rfl, by (repeat (first | exact Ext.refl _ | assumption | refine Ext.alloc ?_ _ | refine Ext.ext ?_ _ | refine Ext.drew ?_))⟩
  rw [hD] at hZ
  rcases (show K = 1 ∨ K = 2 ∨ K = 3 ∨ K = 4 ∨ K = 5 ∨ K = 6 by omega) with rfl | rfl | rfl | rfl | rfl | rfl
  focus
    clear b1 b2 hH1 hH2
    rcases hO : a.Open with _ | _
    all_goals
      rw [hO] at hZ
      replace hZ := Lib.hid hZ
      go_enter Try.func41, Try.ntmps41
      go_wp2
      go_ret
      exact ⟨by rw [hZ.out]; rfl, by (repeat (first | exact Ext.refl _ | assumption | refine Ext.alloc ?_ _ | refine Ext.ext ?_ _ | refine Ext.drew ?_))⟩
  all_goals clear b1 b2
  iterate 3
    focus
      clear hH2
      rcases hO : has a.Left M with _ | _
      all_goals
        rw [hO] at hZ hH1
        replace hZ := Lib.hid hZ
        go_enter Try.func41, Try.ntmps41
        go_wp2_with fail
        refine Calls.mono (hH1.out _ (by (repeat (first | exact Ext.refl _ | assumption | refine Ext.alloc ?_ _ | refine Ext.ext ?_ _ | refine Ext.drew ?_)))) ?_
        rintro _ _ ⟨rfl, rfl⟩
        go_wp2
        go_ret
        exact ⟨by rw [hZ.out]; rfl, by (repeat (first | exact Ext.refl _ | assumption | refine Ext.alloc ?_ _ | refine Ext.ext ?_ _ | refine Ext.drew ?_))⟩
  focus
    clear hH1
    rcases hO : has a.Holds M with _ | _
    all_goals
      rw [hO] at hZ hH2
      replace hZ := Lib.hid hZ
      go_enter Try.func41, Try.ntmps41
      go_wp2_with fail
      refine Calls.mono (hH2.out _ (by (repeat (first | exact Ext.refl _ | assumption | refine Ext.alloc ?_ _ | refine Ext.ext ?_ _ | refine Ext.drew ?_)))) ?_
      rintro _ _ ⟨rfl, rfl⟩
      go_wp2
      go_ret
      exact ⟨by rw [hZ.out]; rfl, by (repeat (first | exact Ext.refl _ | assumption | refine Ext.alloc ?_ _ | refine Ext.ext ?_ _ | refine Ext.drew ?_))⟩
  focus
    clear hH1 hH2
    rcases hO : a.Open with _ | _
    all_goals
      rw [hO] at hZ
      replace hZ := Lib.hid hZ
      go_enter Try.func41, Try.ntmps41
      go_wp2
      go_ret
      exact ⟨by rw [hZ.out]; rfl, by (repeat (first | exact Ext.refl _ | assumption | refine Ext.alloc ?_ _ | refine Ext.ext ?_ _ | refine Ext.drew ?_))⟩
end Go.Proofs.Ytcnmljpabmgieaa.R
