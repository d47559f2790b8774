/- GestureNew: New of the program and of the reference agree; the chapter's example holds. -/
import Derived.Test.YtendgmnbnnkpnaaL1
import Derived.WalkKit
import Derived.WalkSpells
import Derived.WalkLawsBesides
import Derived.Deep.QuietTactic
import Derived.BigQuiet
import Derived.BigRegion
import Derived.Lib.Hide
import Derived.Deep.RegionWith
set_option linter.unusedSimpArgs false
set_option linter.unusedVariables false
namespace Go.Proofs.Ytendgmnbnnkpnaa.G
open Go.RowKit
theorem refNew_ok (kind node : Int) (w : World) (h1 : btw kind 1 8 = true) (h3 : btw node 1 1099511627776 = true) :
    Calls Try.prog 14 #[.int .i64 kind, .int .i64 node] w fun e w' => e = .returned (.tuple #[.agg #[.int .i64 kind, .int .i64 node, .int .i64 0, .int .i64 0, .slice none 0 0, .int .i64 0, .int .i64 0, .int .i64 0], .int .i64 0]) ∧ Ext w w' := by
  simp only [btw, decide_eq_true_eq] at h1 h3
  obtain ⟨h1, h2⟩ := h1
  obtain ⟨h3, h4⟩ := h3
  go_enter Try.func14, Try.ntmps14
  go_wp2
  (refine bodyPost_ret (v := ?_) (by simp [results, Try.results14, go_sem]; rfl) rfl ?_)
  refine ⟨rfl, ?_⟩
  (repeat (first | exact Ext.refl _ | assumption | refine Ext.alloc ?_ _ | refine Ext.ext ?_ _ | refine Ext.drew ?_))
theorem refNew_kind (kind node : Int) (w : World) (h1 : btw kind 1 8 = false) :
    Calls Try.prog 14 #[.int .i64 kind, .int .i64 node] w fun e w' => e = .returned (.tuple #[.agg #[.int .i64 0, .int .i64 0, .int .i64 0, .int .i64 0, .slice none 0 0, .int .i64 0, .int .i64 0, .int .i64 0], .int .i64 9]) ∧ Ext w w' := by
  have h : kind < 1 ∨ ¬ kind < 1 ∧ 8 < kind := by simp [btw] at h1; omega
  clear h1
  rcases h with h | ⟨h, h2⟩
  all_goals
    go_enter Try.func14, Try.ntmps14
    go_wp2
    (refine bodyPost_ret (v := ?_) (by simp [results, Try.results14, go_sem]; rfl) rfl ?_)
    refine ⟨rfl, ?_⟩
    (repeat (first | exact Ext.refl _ | assumption | refine Ext.alloc ?_ _ | refine Ext.ext ?_ _ | refine Ext.drew ?_))
theorem refNew_range (kind node : Int) (w : World) (h1 : btw kind 1 8 = true) (h3 : btw node 1 1099511627776 = false) :
    Calls Try.prog 14 #[.int .i64 kind, .int .i64 node] w fun e w' => e = .returned (.tuple #[.agg #[.int .i64 0, .int .i64 0, .int .i64 0, .int .i64 0, .slice none 0 0, .int .i64 0, .int .i64 0, .int .i64 0], .int .i64 1]) ∧ Ext w w' := by
  simp only [btw, decide_eq_true_eq] at h1
  obtain ⟨h1, h2⟩ := h1
  have h : node < 1 ∨ ¬ node < 1 ∧ 1099511627776 < node := by simp [btw] at h3; omega
  clear h3
  rcases h with h | ⟨h, h4⟩
  all_goals
    go_enter Try.func14, Try.ntmps14
    go_wp2
    (refine bodyPost_ret (v := ?_) (by simp [results, Try.results14, go_sem]; rfl) rfl ?_)
    refine ⟨rfl, ?_⟩
    (repeat (first | exact Ext.refl _ | assumption | refine Ext.alloc ?_ _ | refine Ext.ext ?_ _ | refine Ext.drew ?_))
theorem equal0 (k n s c x y t : Int) (w : World) : Calls Try.prog 15 #[.agg #[.int .i64 k, .int .i64 n, .int .i64 s, .int .i64 c, .slice none 0 0, .int .i64 x, .int .i64 y, .int .i64 t], .agg #[.int .i64 k, .int .i64 n, .int .i64 s, .int .i64 c, .slice none 0 0, .int .i64 x, .int .i64 y, .int .i64 t]] w fun e w' => e = .returned (.bool true) ∧ Ext w w' := by
  go_enter Try.func15, Try.ntmps15
  go_wp2
  refine wp_loop_rounds 1 ?_
  rw [rounds_succ]
  go_wp2
  go_ret
  refine ⟨rfl, ?_⟩
  (repeat (first | exact Ext.refl _ | assumption | refine Ext.alloc ?_ _ | refine Ext.ext ?_ _ | refine Ext.drew ?_))
theorem new_law (a0 a1 : Int) (w : World) : Calls Try.prog 3 #[.int .i64 a0, .int .i64 a1] w fun e w' => e = .returned (.bool true) ∧ Ext w w' := by
  have go : ∀ (k n er : Int), (∀ w, Calls Try.prog 13 #[.int .i64 a0, .int .i64 a1] w fun e w' => e = .returned (.tuple #[.agg #[.int .i64 k, .int .i64 n, .int .i64 0, .int .i64 0, .slice none 0 0, .int .i64 0, .int .i64 0, .int .i64 0], .int .i64 er]) ∧ Ext w w') →
      (∀ w, Calls Try.prog 14 #[.int .i64 a0, .int .i64 a1] w fun e w' => e = .returned (.tuple #[.agg #[.int .i64 k, .int .i64 n, .int .i64 0, .int .i64 0, .slice none 0 0, .int .i64 0, .int .i64 0, .int .i64 0], .int .i64 er]) ∧ Ext w w') →
      Calls Try.prog 3 #[.int .i64 a0, .int .i64 a1] w fun e w' => e = .returned (.bool true) ∧ Ext w w' := by
    intro k n er h1 h2
    replace h1 := Lib.hid h1
    replace h2 := Lib.hid h2
    go_enter Try.func3, Try.ntmps3
    go_wp2_with fail
    refine (h1.out _).mono ?_
    rintro x w1 ⟨rfl, d1, rfl⟩
    go_wp2_with fail
    refine (h2.out _).mono ?_
    rintro x w1 ⟨rfl, d2, rfl⟩
    go_wp2_with fail
    refine (equal0 _ _ _ _ _ _ _ _).mono ?_
    rintro x w1 ⟨rfl, d3, rfl⟩
    go_wp2_with fail
    refine (awake_any _).mono ?_
    rintro x w1 ⟨rfl, d4, rfl⟩
    go_wp2
    go_ret
    refine ⟨rfl, ?_⟩
    (repeat (first | exact Ext.refl _ | assumption | refine Ext.alloc ?_ _ | refine Ext.ext ?_ _ | refine Ext.drew ?_))
  cases hk : btw a0 1 8 with
  | false => exact go _ _ _ (fun w => New_kind a0 a1 w hk) (fun w => refNew_kind a0 a1 w hk)
  | true =>
    cases hn : btw a1 1 1099511627776 with
    | false => exact go _ _ _ (fun w => New_range a0 a1 w hk hn) (fun w => refNew_range a0 a1 w hk hn)
    | true => exact go _ _ _ (fun w => New_ok a0 a1 w hk hn) (fun w => refNew_ok a0 a1 w hk hn)
end Go.Proofs.Ytendgmnbnnkpnaa.G
