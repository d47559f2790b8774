/- The reference's arena: Step, whole. -/
import Derived.Test.YtcnmljpabmgieaaAr34
import Derived.Test.YtcnmljpabmgieaaAr35
import Derived.WalkKit
import Derived.WalkSpells
import Derived.WalkLawsBesides
import Derived.Deep.QuietTactic
import Derived.BigQuiet
import Derived.BigRegion
import Derived.Lib.Hide
import Derived.Deep.RegionWith
set_option linter.unusedSimpArgs false
set_option linter.unusedVariables false
namespace Go.Proofs.Ytcnmljpabmgieaa.R
open Go.RowKit
set_option maxRecDepth 100000 in
set_option maxHeartbeats 4000000 in
theorem rStep_bad (Φ : World → Option Addr → Nat → List Int → Prop) (hΦ : Rows Φ) (a : Arn) (K M : Int) (la ha : Option Addr) (lc hc : Nat) (w : World) (hl : a.Left.length ≤ 1000) (hl2 : a.Holds.length ≤ 1000) (h1 : Φ w la lc a.Left) (h2 : Φ w ha hc a.Holds) (hr : refuse a ⟨K, M⟩ ≠ 0) :
    Calls Try.prog 23 #[.agg #[.int .i64 (a).Members, .slice la (a).Left.length lc, .bool (a).Open, .int .i64 (a).Eager, .slice ha (a).Holds.length hc, .bool (a).Swept, .int .i64 (a).Winner, .bool (a).Done], .agg #[.int .i64 K, .int .i64 M]] w fun x w' => x = .returned (.tuple #[.agg #[.int .i64 0, .slice none 0 0, .bool false, .int .i64 0, .slice none 0 0, .bool false, .int .i64 0, .bool false], .slice none 0 0, .int .i64 (refuse a ⟨K, M⟩)]) ∧ Ext w w' := by
  have hck := fun w' (he : Ext w w') => rCheck_ok a la ha lc hc w' (by omega) (by omega) (hΦ.rep (hΦ.ext h1 he)) (hΦ.rep (hΦ.ext h2 he))
  have hrf := fun w' (he : Ext w w') => rRef_ok a K M la ha lc hc w' (by omega) (by omega) (hΦ.rep (hΦ.ext h1 he)) (hΦ.rep (hΦ.ext h2 he))
  obtain ⟨Z, hZ⟩ : ∃ Z, Z = refuse a ⟨K, M⟩ := ⟨_, rfl⟩
  rw [← hZ] at hr ⊢
  obtain ⟨n, hn⟩ : ∃ n, n = a.Left.length := ⟨_, rfl⟩
  obtain ⟨nh, hnh⟩ : ∃ n, n = a.Holds.length := ⟨_, rfl⟩
  rw [← hn] at hck hrf ⊢
  rw [← hnh] at hck hrf ⊢
  rcases check_val2 a with hc0 | hc0
  focus
    rw [hc0] at hck
    rw [rref_eq a _ hc0, ← hZ] at hrf
    have hz : (Z == 0) = false := by simpa using hr
    replace hck := Lib.hid hck
    replace hrf := Lib.hid hrf
    clear hn hnh h1 h2 hl hl2 hc0 hr hZ
    (go_enter Try.func23, Try.ntmps23; (go_wp2_with fail); (refine Calls.mono (hck.out _ (by (repeat (first | exact Ext.refl _ | assumption | refine Ext.alloc ?_ _ | refine Ext.ext ?_ _ | refine Ext.drew ?_)))) ?_); (rintro _ _ ⟨rfl, D1, rfl⟩); (go_wp2_with fail); (refine Calls.mono (hrf.out _ (by (repeat (first | exact Ext.refl _ | assumption | refine Ext.alloc ?_ _ | refine Ext.ext ?_ _ | refine Ext.drew ?_)))) ?_); (rintro _ _ ⟨rfl, D2, rfl⟩))
    go_wp2
    (refine bodyPost_ret (v := ?_) (by simp [results, Try.results23, go_sem]; rfl) rfl ?_)
    exact ⟨rfl, by (repeat (first | exact Ext.refl _ | assumption | refine Ext.alloc ?_ _ | refine Ext.ext ?_ _ | refine Ext.drew ?_))⟩
  focus
    have hz : Hid (Z = 12) := Lib.hid (by rw [hZ]; unfold refuse; rw [hc0]; rfl)
    rw [hc0] at hck
    replace hck := Lib.hid hck
    clear hn hnh h1 h2 hl hl2 hc0 hr hrf hZ
    go_enter Try.func23, Try.ntmps23
    go_wp2_with fail
    refine Calls.mono (hck.out _ (by (repeat (first | exact Ext.refl _ | assumption | refine Ext.alloc ?_ _ | refine Ext.ext ?_ _ | refine Ext.drew ?_)))) ?_
    rintro _ _ ⟨rfl, D1, rfl⟩
    go_wp2
    (refine bodyPost_ret (v := ?_) (by simp [results, Try.results23, go_sem]; rfl) rfl ?_)
    exact ⟨by rw [hz.out], by (repeat (first | exact Ext.refl _ | assumption | refine Ext.alloc ?_ _ | refine Ext.ext ?_ _ | refine Ext.drew ?_))⟩
theorem rStep_ok (Φ : World → Option Addr → Nat → List Int → Prop) (hΦ : Rows Φ) (a : Arn) (K M : Int) (la ha : Option Addr) (lc hc : Nat) (w : World) (hl : a.Left.length ≤ 1000) (hl2 : a.Holds.length ≤ 1000) (h1 : Φ w la lc a.Left) (h2 : Φ w ha hc a.Holds) :
    Calls Try.prog 23 #[.agg #[.int .i64 (a).Members, .slice la (a).Left.length lc, .bool (a).Open, .int .i64 (a).Eager, .slice ha (a).Holds.length hc, .bool (a).Swept, .int .i64 (a).Winner, .bool (a).Done], .agg #[.int .i64 K, .int .i64 M]] w fun x w' => ∃ la' lc' ha' hc' va vc, x = .returned (.tuple #[.agg #[.int .i64 ((step a ⟨K, M⟩).1).Members, .slice la' ((step a ⟨K, M⟩).1).Left.length lc', .bool ((step a ⟨K, M⟩).1).Open, .int .i64 ((step a ⟨K, M⟩).1).Eager, .slice ha' ((step a ⟨K, M⟩).1).Holds.length hc', .bool ((step a ⟨K, M⟩).1).Swept, .int .i64 ((step a ⟨K, M⟩).1).Winner, .bool ((step a ⟨K, M⟩).1).Done], .slice va (step a ⟨K, M⟩).2.1.length vc, .int .i64 (step a ⟨K, M⟩).2.2]) ∧ Ext w w' ∧ Φ w' la' lc' (step a ⟨K, M⟩).1.Left ∧ Φ w' ha' hc' (step a ⟨K, M⟩).1.Holds ∧ OV w' va vc (step a ⟨K, M⟩).2.1 := by
  by_cases hr : refuse a ⟨K, M⟩ = 0
  · have hs : step a ⟨K, M⟩ = ((act a ⟨K, M⟩).1, (act a ⟨K, M⟩).2, 0) := by
      unfold step
      simp [hr]
    rw [hs]
    obtain ⟨_, _, k1, k2, _⟩ := refuse_zero hr
    simp only at k1 k2
    rcases (show K = 1 ∨ K = 2 ∨ K = 3 ∨ K = 4 ∨ K = 5 ∨ K = 6 by omega) with rfl | rfl | rfl | rfl | rfl | rfl
    · exact rStep1 Φ hΦ a M la ha lc hc w h1 h2 hr
    · exact rStep2 Φ hΦ a M la ha lc hc w h1 h2 hr
    · exact rStep3 Φ hΦ a M la ha lc hc w h1 h2 hr
    · exact rStep4 Φ hΦ a M la ha lc hc w h1 h2 hr
    · exact rStep5 Φ hΦ a M la ha lc hc w h1 h2 hr
    · exact rStep6 Φ hΦ a M la ha lc hc w h1 h2 hr
  · have hs : step a ⟨K, M⟩ = (.zero, [], refuse a ⟨K, M⟩) := by
      unfold step
      rw [if_pos (by simpa using hr)]
    rw [hs]
    refine (rStep_bad Φ hΦ a K M la ha lc hc w hl hl2 h1 h2 hr).mono ?_
    rintro _ _ ⟨rfl, he⟩
    exact ⟨none, 0, none, 0, none, 0, rfl, he, hΦ.own (OI.nil 0 _), hΦ.own (OI.nil 0 _), OV.nil _⟩
end Go.Proofs.Ytcnmljpabmgieaa.R
