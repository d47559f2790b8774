/- Small functions of the recognisers, walked: what each returns. -/
import Derived.Test.YtendgmnbnnkpnaaRows
import Derived.Test.YtendgmnbnnkpnaaG0
import Derived.Test.YtendgmnbnnkpnaaX3
import Derived.WalkKit
import Derived.WalkSpells
import Derived.WalkLawsBesides
import Derived.Deep.QuietTactic
import Derived.BigQuiet
import Derived.BigRegion
import Derived.Lib.Hide
import Derived.Deep.RegionWith
set_option linter.unusedSimpArgs false
set_option linter.unusedVariables false
namespace Go.Proofs.Ytendgmnbnnkpnaa.G
open Go.RowKit

theorem fl_pos (a b : Int) (h : 0 ≤ a.tmod b) : a.tdiv b = fl a b := by
  unfold fl
  rw [Int.tdiv_eq_ediv]
  have : 0 ≤ a ∨ b ∣ a := by
    by_cases ha : 0 ≤ a
    · exact .inl ha
    · right
      have h3 : a.tmod b ≤ 0 := by
        have h4 := Int.tmod_nonneg b (a := -a) (by omega)
        rw [Int.neg_tmod] at h4; omega
      exact Int.dvd_of_tmod_eq_zero (by omega)
  simp [this]
theorem fl_neg (a b : Int) (h1 : -1152921504606846976 ≤ a) (h1' : a ≤ 1152921504606846976) (h2 : 1 ≤ b) (h : a.tmod b < 0) : wrap64 (a.tdiv b - 1) = fl a b := by
  have ha : a < 0 := by
    by_cases ha : 0 ≤ a
    · have := Int.tmod_nonneg b ha; omega
    · omega
  have hd : ¬ b ∣ a := fun hd => by rw [Int.tmod_eq_zero_of_dvd hd] at h; omega
  have e : a.tdiv b - 1 = a / b := by
    rw [Int.tdiv_eq_ediv, if_neg (by omega), Int.sign_eq_one_of_pos (by omega)]; omega
  rw [e]
  unfold fl
  have h5 : a / b ≤ 0 := by
    have := Int.ediv_neg_of_neg_of_pos ha (show 0 < b by omega); omega
  have h6 : a ≤ a / b := by
    have h7 : b * (a / b) + a % b = a := Int.mul_ediv_add_emod a b
    have h8 : 0 ≤ a % b := Int.emod_nonneg a (by omega)
    have h9 : a % b < b := Int.emod_lt_of_pos a (by omega)
    have h10 : a / b * b ≤ a / b * 1 := Int.mul_le_mul_of_nonpos_left h5 h2
    have h11 : a / b * b ≤ a := by rw [Int.mul_comm] at h7; omega
    by_cases h12 : a ≤ a / b
    · exact h12
    · have h13 : a / b ≤ a - 1 := by omega
      have h14 : b * (a / b) ≤ 1 * (a / b) := Int.mul_le_mul_of_nonpos_right h2 h5
      have h15 : b * (a / b) = a - a % b := by omega
      have h16 : b * (a / b) ≤ b * (a - 1) := Int.mul_le_mul_of_nonneg_left h13 (by omega)
      have h17 : b * (a - 1) ≤ 1 * (a - 1) := Int.mul_le_mul_of_nonpos_right h2 (by omega)
      have h18 : b * (a - 1) = b * a - b := by rw [Int.mul_sub]; omega
      have h19 : b * a ≤ 1 * a := Int.mul_le_mul_of_nonpos_right h2 (by omega)
      omega
  exact IntWalk.wrap64_in _ (by omega)

set_option maxHeartbeats 400000 in
theorem between_any (x lo hi : Int) (w : World) :
    Calls Try.prog 30 #[.int .i64 x, .int .i64 lo, .int .i64 hi] w fun e w' => e = .returned (.bool (btw x lo hi)) ∧ w = w' := by
  go_enter Try.func30, Try.ntmps30
  go_wp2
  all_goals (go_ret; simp [btw]; try omega)

set_option maxHeartbeats 400000 in
theorem placed_any (x y t : Int) (w : World) :
    Calls Try.prog 40 #[.agg #[.int .i64 x, .int .i64 y, .int .i64 t]] w fun e w' => e = .returned (.bool (placed ⟨x, y, t⟩)) ∧ Ext w w' := by
  go_enter Try.func40, Try.ntmps40
  go_wp2_with (go_at_call 30; refine (between_any _ _ _ _).mono ?_; rintro e w' ⟨rfl, rfl⟩)
  all_goals (go_ret; refine ⟨by simp_all [placed], ?_⟩; (repeat (first | exact Ext.refl _ | assumption | refine Ext.alloc ?_ _ | refine Ext.ext ?_ _ | refine Ext.drew ?_)))

set_option maxHeartbeats 400000 in
theorem sample_any (k i x y t wh : Int) (w : World) :
    Calls Try.prog 53 #[.agg #[.int .i64 k, .int .i64 i, .int .i64 x, .int .i64 y, .int .i64 t, .int .i64 wh]] w fun e w' => e = .returned (.agg #[.int .i64 x, .int .i64 y, .int .i64 t]) ∧ Ext w w' := by
  go_enter Try.func53, Try.ntmps53
  go_wp2
  (refine bodyPost_ret (v := ?_) (by simp [results, Try.results53, go_sem]; rfl) rfl ?_)
  refine ⟨rfl, ?_⟩
  (repeat (first | exact Ext.refl _ | assumption | refine Ext.alloc ?_ _ | refine Ext.ext ?_ _ | refine Ext.drew ?_))

set_option maxHeartbeats 400000 in
theorem valid_any (k i x y t wh : Int) (w : World) :
    Calls Try.prog 33 #[.agg #[.int .i64 k, .int .i64 i, .int .i64 x, .int .i64 y, .int .i64 t, .int .i64 wh]] w fun e w' => e = .returned (.bool (valid ⟨k, i, x, y, t, wh⟩)) ∧ Ext w w' := by
  by_cases hk : k = 5
  · subst hk
    go_enter Try.func33, Try.ntmps33
    go_wp2_with (go_at_call 30; refine (between_any _ _ _ _).mono ?_; rintro e w' ⟨rfl, rfl⟩)
    go_ret; refine ⟨by simp [valid], ?_⟩; (repeat (first | exact Ext.refl _ | assumption | refine Ext.alloc ?_ _ | refine Ext.ext ?_ _ | refine Ext.drew ?_))
  · have hk' : (k == 5) = false := by simpa using hk
    go_enter Try.func33, Try.ntmps33
    go_wp2_with (first | (go_at_call 30; refine (between_any _ _ _ _).mono ?_; rintro e w' ⟨rfl, rfl⟩) | (go_at_call 53; refine (sample_any _ _ _ _ _ _ _).mono ?_; rintro e w' ⟨rfl, d, rfl⟩) | (go_at_call 40; refine (placed_any _ _ _ _).mono ?_; rintro e w' ⟨rfl, d, rfl⟩))
    all_goals (go_ret; refine ⟨by simp_all [valid], ?_⟩; (repeat (first | exact Ext.refl _ | assumption | refine Ext.alloc ?_ _ | refine Ext.ext ?_ _ | refine Ext.drew ?_)))

set_option maxHeartbeats 400000 in
theorem distance_any (x y t x' y' t' : Int) (w : World) (h1 : -2097152 ≤ x - x' ∧ x - x' ≤ 2097152) (h2 : -2097152 ≤ y - y' ∧ y - y' ≤ 2097152) :
    Calls Try.prog 83 #[.agg #[.int .i64 x, .int .i64 y, .int .i64 t], .agg #[.int .i64 x', .int .i64 y', .int .i64 t']] w fun e w' => e = .returned (.int .i64 (dist ⟨x, y, t⟩ ⟨x', y', t'⟩)) ∧ Ext w w' := by
  go_enter Try.func83, Try.ntmps83
  go_wp2
  (refine wp_region_ext (by kernel_rfl) (by kernel_rfl) ?_; (repeat (go_big_quiet_step ((fail)))); refine wpQuiet_nil ?_; intro _ hwq; obtain ⟨dq, hwq⟩ := hwq; subst hwq)
  go_wp2
  go_ret
  refine ⟨by simp [dist], ?_⟩
  (repeat (first | exact Ext.refl _ | assumption | refine Ext.alloc ?_ _ | refine Ext.ext ?_ _ | refine Ext.drew ?_))

set_option maxHeartbeats 400000 in
theorem ok_any (a b : Int) (w : World) (h1 : -1152921504606846976 ≤ a) (h1' : a ≤ 1152921504606846976) (h2 : 0 ≤ b) (h3 : b ≤ 1152921504606846976) :
    Calls Try.prog 67 #[.int .i64 a, .int .i64 b] w fun e w' => e = .returned (.bool (decide (0 < b))) ∧ w = w' := by
  go_enter Try.func67, Try.ntmps67
  go_wp2
  all_goals (go_ret; simp; try first | omega | (rw [Bool.eq_iff_iff]; simp; omega))

set_option maxHeartbeats 400000 in
theorem floor1_any (a b : Int) (w : World) (h1 : -1152921504606846976 ≤ a) (h1' : a ≤ 1152921504606846976) (h2 : 1 ≤ b) (h3 : b ≤ 1152921504606846976) :
    Calls Try.prog 68 #[.int .i64 a, .int .i64 b] w fun e w' => e = .returned (.int .i64 (fl a b)) ∧ w = w' := by
  go_enter Try.func68, Try.ntmps68
  go_wp2
  · go_ret
    refine ⟨?_, rfl⟩
    show Ending.returned (.int .i64 (wrap64 (a.tdiv b - 1))) = _
    rw [fl_neg a b h1 h1' h2 ‹_›]
  · go_ret
    refine ⟨?_, rfl⟩
    show Ending.returned (.int .i64 (a.tdiv b)) = _
    rw [fl_pos a b ‹_›]

set_option maxHeartbeats 400000 in
theorem floor_any (a b : Int) (w : World) (h1 : -1152921504606846976 ≤ a) (h1' : a ≤ 1152921504606846976) (h2 : 0 ≤ b) (h3 : b ≤ 1152921504606846976) :
    Calls Try.prog 41 #[.int .i64 a, .int .i64 b] w fun e w' => e = .returned (.int .i64 (fl a b)) ∧ w = w' := by
  by_cases hb : 0 < b
  · have hd : decide (0 < b) = true := by simpa using hb
    go_enter Try.func41, Try.ntmps41
    go_wp2_with (first | (go_at_call 67; refine (ok_any _ _ _ h1 h1' h2 h3).mono ?_; rintro e w' ⟨rfl, rfl⟩) | (go_at_call 68; refine (floor1_any _ _ _ h1 h1' (by omega) h3).mono ?_; rintro e w' ⟨rfl, rfl⟩))
    all_goals (go_ret; exact ⟨rfl, rfl⟩)
  · have hd : decide (0 < b) = false := by simpa using hb
    go_enter Try.func41, Try.ntmps41
    go_wp2_with (first | (go_at_call 67; refine (ok_any _ _ _ h1 h1' h2 h3).mono ?_; rintro e w' ⟨rfl, rfl⟩))
    all_goals (go_ret; refine ⟨?_, rfl⟩; have : b = 0 := by omega
               subst this; simp [fl])

theorem floor_x (a b : Int) (w : World) (h1 : -1152921504606846976 ≤ a) (h1' : a ≤ 1152921504606846976) (h2 : 0 ≤ b) (h3 : b ≤ 1152921504606846976) :
    Calls Try.prog 41 #[.int .i64 a, .int .i64 b] w fun e w' => e = .returned (.int .i64 (fl a b)) ∧ Ext w w' :=
  (floor_any a b w h1 h1' h2 h3).mono fun _ _ ⟨h, hw⟩ => ⟨h, hw ▸ Ext.refl _⟩

set_option maxHeartbeats 400000 in
theorem size_any (a : Int) (w : World) (h1 : -1152921504606846976 ≤ a) (h1' : a ≤ 1152921504606846976)  :
    Calls Try.prog 93 #[.int .i64 a] w fun e w' => e = .returned (.int .i64 (size a)) ∧ w = w' := by
  go_enter Try.func93, Try.ntmps93
  go_wp2
  go_ret
  exact ⟨rfl, rfl⟩

set_option maxHeartbeats 400000 in
theorem cont_any (a : Int) (w : World) :
    Calls Try.prog 34 #[.int .i64 a] w fun e w' => e = .returned (.bool (cont a)) ∧ w = w' := by
  go_enter Try.func34, Try.ntmps34
  go_wp2_with (go_at_call 30; refine (between_any _ _ _ _).mono ?_; rintro e w' ⟨rfl, rfl⟩)
  go_ret
  exact ⟨rfl, rfl⟩

set_option maxHeartbeats 400000 in
theorem room_any (a : Int) (w : World) :
    Calls Try.prog 91 #[.int .i64 a] w fun e w' => e = .returned (.int .i64 (room a)) ∧ w = w' := by
  go_enter Try.func91, Try.ntmps91
  go_wp2
  all_goals (go_ret; refine ⟨?_, rfl⟩; simp_all [room])

set_option maxHeartbeats 400000 in
theorem New_ok (kind node : Int) (w : World) (h1 : btw kind 1 8 = true) (h3 : btw node 1 1099511627776 = true) :
    Calls Try.prog 13 #[.int .i64 kind, .int .i64 node] w fun e w' => e = .returned (.tuple #[.agg #[.int .i64 kind, .int .i64 node, .int .i64 0, .int .i64 0, .slice none 0 0, .int .i64 0, .int .i64 0, .int .i64 0], .int .i64 0]) ∧ Ext w w' := by
  go_enter Try.func13, Try.ntmps13
  go_wp2_with (go_at_call 30; refine (between_any _ _ _ _).mono ?_; rintro e w' ⟨rfl, rfl⟩)
  (refine bodyPost_ret (v := ?_) (by simp [results, Try.results13, go_sem]; rfl) rfl ?_)
  refine ⟨rfl, ?_⟩
  (repeat (first | exact Ext.refl _ | assumption | refine Ext.alloc ?_ _ | refine Ext.ext ?_ _ | refine Ext.drew ?_))
set_option maxHeartbeats 400000 in
theorem New_kind (kind node : Int) (w : World) (h1 : btw kind 1 8 = false) :
    Calls Try.prog 13 #[.int .i64 kind, .int .i64 node] w fun e w' => e = .returned (.tuple #[.agg #[.int .i64 0, .int .i64 0, .int .i64 0, .int .i64 0, .slice none 0 0, .int .i64 0, .int .i64 0, .int .i64 0], .int .i64 9]) ∧ Ext w w' := by
  go_enter Try.func13, Try.ntmps13
  go_wp2_with (go_at_call 30; refine (between_any _ _ _ _).mono ?_; rintro e w' ⟨rfl, rfl⟩)
  (refine bodyPost_ret (v := ?_) (by simp [results, Try.results13, go_sem]; rfl) rfl ?_)
  refine ⟨rfl, ?_⟩
  (repeat (first | exact Ext.refl _ | assumption | refine Ext.alloc ?_ _ | refine Ext.ext ?_ _ | refine Ext.drew ?_))
set_option maxHeartbeats 400000 in
theorem New_range (kind node : Int) (w : World) (h1 : btw kind 1 8 = true) (h3 : btw node 1 1099511627776 = false) :
    Calls Try.prog 13 #[.int .i64 kind, .int .i64 node] w fun e w' => e = .returned (.tuple #[.agg #[.int .i64 0, .int .i64 0, .int .i64 0, .int .i64 0, .slice none 0 0, .int .i64 0, .int .i64 0, .int .i64 0], .int .i64 1]) ∧ Ext w w' := by
  go_enter Try.func13, Try.ntmps13
  go_wp2_with (go_at_call 30; refine (between_any _ _ _ _).mono ?_; rintro e w' ⟨rfl, rfl⟩)
  (refine bodyPost_ret (v := ?_) (by simp [results, Try.results13, go_sem]; rfl) rfl ?_)
  refine ⟨rfl, ?_⟩
  (repeat (first | exact Ext.refl _ | assumption | refine Ext.alloc ?_ _ | refine Ext.ext ?_ _ | refine Ext.drew ?_))
end Go.Proofs.Ytendgmnbnnkpnaa.G
