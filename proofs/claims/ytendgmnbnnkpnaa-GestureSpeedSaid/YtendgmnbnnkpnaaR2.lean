/- The reference: Velocity. -/
import Derived.Test.YtendgmnbnnkpnaaR1
import Derived.WalkKit
import Derived.WalkSpells
import Derived.WalkLawsBesides
import Derived.Deep.QuietTactic
import Derived.BigQuiet
import Derived.BigRegion
import Derived.Lib.Hide
import Derived.Deep.RegionWith
set_option linter.unusedSimpArgs false
set_option linter.unusedVariables false
namespace Go.Proofs.Ytendgmnbnnkpnaa.G
open Go.RowKit
set_option maxHeartbeats 400000 in
theorem r_vel_nil (a : Option Addr) (cap : Nat) (w : World) :
    Calls Try.prog 25 #[.slice a 0 cap] w fun e w' => e = .returned (.tuple #[.int .i64 0, .int .i64 0]) ∧ Ext w w' := by
  go_enter Try.func25, Try.ntmps25
  go_wp2
  refine wp_loop_rounds 1 ?_
  rw [rounds_succ]
  go_wp2
  go_ret2
  refine ⟨rfl, ?_⟩
  (repeat (first | exact Ext.refl _ | assumption | refine Ext.alloc ?_ _ | refine Ext.ext ?_ _ | refine Ext.drew ?_))
set_option maxRecDepth 100000 in
set_option maxHeartbeats 2000000 in
theorem r_vel_any (cap b off : Nat) (l : List Smp) (w : World) (hpos : 0 < l.length) (hl : l.length ≤ 4611686018427387904) (hs : SsAt w b off l) :
    Calls Try.prog 25 #[.slice (some ⟨b, off, none⟩) l.length cap] w fun e w' =>
      e = .returned (.tuple #[.int .i64 (vel l).1, .int .i64 (vel l).2]) ∧ Ext w w' := by
  have hb := hs.lt hpos
  have hn : ((l.length : Int) == 0) = false := by simp; intro h; simp [h] at hpos
  go_enter Try.func25, Try.ntmps25
  go_wp2
  go_loopw [5] (fun i wr => ∃ k : Nat, k ≤ l.length ∧ i = .int .i64 k ∧ Ext w wr ∧ Hid (∀ j, j < k → good l j = true)) (fun i _ => l.length - (intOf i).toNat)
  case atStart => exact ⟨0, Nat.zero_le _, rfl, Ext.refl _, fun j hj => absurd hj (by omega)⟩
  case round =>
    obtain ⟨k, hk, rfl, ⟨d, rfl⟩, hg⟩ := hrel
    by_cases hlt : k < l.length
    · obtain ⟨c0, c1, c2⟩ := hs k hlt
      cases hp : placed (nth l k)
      · -- not placed
        have hbad : Hid (velOk l = false) := velOk_not l k hlt (by simp [good, hp])
        generalize nth l k = s at *
        have hb3 : btw s.X (-1048576) 1048576 = false ∨ btw s.X (-1048576) 1048576 = true ∧ btw s.Y (-1048576) 1048576 = false ∨ btw s.X (-1048576) 1048576 = true ∧ btw s.Y (-1048576) 1048576 = true ∧ btw s.T 0 1099511627776 = false := by
          rcases b1 : btw s.X (-1048576) 1048576 with _ | _
          · exact .inl rfl
          · rcases b2 : btw s.Y (-1048576) 1048576 with _ | _
            · exact .inr (.inl ⟨rfl, rfl⟩)
            · refine .inr (.inr ⟨rfl, rfl, ?_⟩)
              unfold placed at hp
              rw [b1, b2] at hp
              simpa using hp
        clear hp
        rcases hb3 with b1 | ⟨b1, b2⟩ | ⟨b1, b2, b3⟩
        all_goals
          go_wp2
          (refine wp_region_ext (by kernel_rfl) (by kernel_rfl) ?_; (repeat (go_big_quiet_step ((first | (go_at_call 42; exact Calls.quiet_same (r_near _ _)) | (go_at_call 43; exact Calls.quiet_same (r_timely _ _)))))); refine wpQuiet_nil ?_; intro _ hwq; obtain ⟨dq, hwq⟩ := hwq; subst hwq)
          go_wp2
          go_ret2
          refine ⟨?_, ?_⟩
          · rw [vel_bad l hbad.out]; rfl
          · (repeat (first | exact Ext.refl _ | assumption | refine Ext.alloc ?_ _ | refine Ext.ext ?_ _ | refine Ext.drew ?_))
      · have hb3 : btw (nth l k).X (-1048576) 1048576 = true ∧ btw (nth l k).Y (-1048576) 1048576 = true ∧ btw (nth l k).T 0 1099511627776 = true := by
          simpa [placed, and_assoc] using hp
        obtain ⟨b1, b2, b3⟩ := hb3
        by_cases hk0 : k = 0
        · have hgk : Hid (∀ j, j < k + 1 → good l j = true) := fun j hj => by
            obtain rfl : j = k := by omega
            unfold good; rw [hp]; simp [hk0]
          clear hg hp
          generalize nth l k = s at *
          have hk1 : decide (0 < k) = false := by simp; omega
          have hk2 : k < 1 := by omega
          clear hk0
          go_wp2
          (refine wp_region_ext (by kernel_rfl) (by kernel_rfl) ?_; (repeat (go_big_quiet_step ((first | (go_at_call 42; exact Calls.quiet_same (r_near _ _)) | (go_at_call 43; exact Calls.quiet_same (r_timely _ _)))))); refine wpQuiet_nil ?_; intro _ hwq; obtain ⟨dq, hwq⟩ := hwq; subst hwq)
          go_wp2
          go_roundw
          case rel => exact ⟨k + 1, by omega, by go_num, (by (repeat (first | exact Ext.refl _ | assumption | refine Ext.alloc ?_ _ | refine Ext.ext ?_ _ | refine Ext.drew ?_))), hgk⟩
          case measure => simp [intOf]; omega
        · have hk1 : 0 < k := by omega
          have hk2 : decide (0 < k) = true := by simp; omega
          obtain ⟨_, _, e2⟩ := hs (k - 1) (by omega)
          by_cases hlate : (nth l k).T < (nth l (k - 1)).T
          · have hbad : Hid (velOk l = false) := velOk_not l k hlt (by simp [good, hp, hk0, hlate])
            clear hg hp
            generalize nth l k = s at *
            generalize nth l (k - 1) = s' at *
            go_wp2
            (refine wp_region_ext (by kernel_rfl) (by kernel_rfl) ?_; (repeat (go_big_quiet_step ((first | (go_at_call 42; exact Calls.quiet_same (r_near _ _)) | (go_at_call 43; exact Calls.quiet_same (r_timely _ _)))))); refine wpQuiet_nil ?_; intro _ hwq; obtain ⟨dq, hwq⟩ := hwq; subst hwq)
            go_wp2
            go_ret2
            refine ⟨?_, ?_⟩
            · rw [vel_bad l hbad.out]; rfl
            · (repeat (first | exact Ext.refl _ | assumption | refine Ext.alloc ?_ _ | refine Ext.ext ?_ _ | refine Ext.drew ?_))
          · have hgk : Hid (∀ j, j < k + 1 → good l j = true) := fun j hj => by
              by_cases hj' : j < k
              · exact hg j hj'
              · obtain rfl : j = k := by omega
                simp only [good, hp, Bool.true_and, Bool.or_eq_true, Bool.not_eq_true', decide_eq_false_iff_not]
                exact .inr hlate
            clear hg hp
            generalize nth l k = s at *
            generalize nth l (k - 1) = s' at *
            go_wp2
            (refine wp_region_ext (by kernel_rfl) (by kernel_rfl) ?_; (repeat (go_big_quiet_step ((first | (go_at_call 42; exact Calls.quiet_same (r_near _ _)) | (go_at_call 43; exact Calls.quiet_same (r_timely _ _)))))); refine wpQuiet_nil ?_; intro _ hwq; obtain ⟨dq, hwq⟩ := hwq; subst hwq)
            go_wp2
            go_roundw
            case rel => exact ⟨k + 1, by omega, by go_num, (by (repeat (first | exact Ext.refl _ | assumption | refine Ext.alloc ?_ _ | refine Ext.ext ?_ _ | refine Ext.drew ?_))), hgk⟩
            case measure => simp [intOf]; omega
    · obtain rfl : k = l.length := by omega
      obtain ⟨c0, c1, c2⟩ := hs (l.length - 1) (by omega)
      have hv : Hid (velOk l = true) := velOk_of l hg
      have hlb := placed_bd (good_placed l _ (hg (l.length - 1) (by omega)))
      have hvel : Hid (∀ f, (l.find? fun s => decide ((nth l (l.length - 1)).T - 100 ≤ s.T)).getD (nth l (l.length - 1)) = f → vel l = (fl (1000 * ((nth l (l.length - 1)).X - f.X)) ((nth l (l.length - 1)).T - f.T), fl (1000 * ((nth l (l.length - 1)).Y - f.Y)) ((nth l (l.length - 1)).T - f.T))) := fun f hf => vel_ok l hpos (velOk_of l hg) f hf
      have htm : Hid (∀ k, k < l.length → (nth l k).T ≤ (nth l (l.length - 1)).T) := fun k hk => times_le l (velOk_of l hg) _ _ (by omega) (by omega)
      have hlastne : Hid (∀ k, (nth l k).T < (nth l (l.length - 1)).T - 100 → k ≠ l.length - 1) := fun k hk he => by rw [he] at hk; omega
      clear hg hlt hk
      generalize nth l (l.length - 1) = z at *
      go_wp2
      go_loopw [7] (fun i wr => ∃ k : Nat, k < l.length ∧ i = .int .i64 k ∧ Ext ((w.ext d).alloc (Obj.cells #[.int .i64 z.X, .int .i64 z.Y, .int .i64 z.T] 24)) wr ∧ Hid (∀ j, j < k → decide (z.T - 100 ≤ (nth l j).T) = false)) (fun i _ => l.length - (intOf i).toNat)
      case atStart => exact ⟨0, hpos, rfl, Ext.refl _, fun j hj => absurd hj (by omega)⟩
      case round =>
        obtain ⟨k, hlt, rfl, ⟨d', rfl⟩, hg⟩ := hrel
        obtain ⟨c0, c1, c2⟩ := hs k hlt
        have hkb := placed_bd (good_placed l _ (velOk_good l hv.out k hlt))
        have hkt := htm k hlt
        by_cases hh : z.T - 100 ≤ (nth l k).T
        · have hfin := hvel (nth l k) (by rw [find_of l (fun s => decide (z.T - 100 ≤ s.T)) k hlt hg (by simpa using hh)]; rfl)
          clear hvel htm hg hlastne
          replace hfin := Lib.hid hfin
          generalize nth l k = s at *
          have hh2 : decide (s.T < z.T - 100) = false := by simp; omega
          go_wp2
          (refine wp_region_ext (by kernel_rfl) (by kernel_rfl) ?_; (repeat (go_big_quiet_step ((fail)))); refine wpQuiet_nil ?_; intro _ hwq; obtain ⟨dq, hwq⟩ := hwq; subst hwq)
          go_wp2
          (refine wp_region_ext (by kernel_rfl) (by kernel_rfl) ?_; (repeat (go_big_quiet_step ((fail)))); refine wpQuiet_nil ?_; intro _ hwq; obtain ⟨dq, hwq⟩ := hwq; subst hwq)
          go_wp2
          (refine wp_region_ext (by kernel_rfl) (by kernel_rfl) ?_; (repeat (go_big_quiet_step ((go_at_call 26; exact Calls.quiet_same (r_floor _ _ _ (by omega) (by omega) (by omega) (by omega)))))); refine wpQuiet_nil ?_; intro _ hwq; obtain ⟨dq, hwq⟩ := hwq; subst hwq)
          go_wp2
          go_ret2
          refine ⟨?_, ?_⟩
          · rw [hfin.out]; rfl
          · (repeat (first | exact Ext.refl _ | assumption | refine Ext.alloc ?_ _ | refine Ext.ext ?_ _ | refine Ext.drew ?_))
        · have hgk : Hid (∀ j, j < k + 1 → decide (z.T - 100 ≤ (nth l j).T) = false) := fun j hj => by
            by_cases hj' : j < k
            · exact hg j hj'
            · obtain rfl : j = k := by omega
              simpa using hh
          have hk1 : k + 1 < l.length := by
            have := hlastne k (by omega)
            omega
          clear hg hvel htm hlastne
          generalize nth l k = s at *
          have hh2 : decide (s.T < z.T - 100) = true := by simp; omega
          go_wp2
          (refine wp_region_ext (by kernel_rfl) (by kernel_rfl) ?_; (repeat (go_big_quiet_step ((fail)))); refine wpQuiet_nil ?_; intro _ hwq; obtain ⟨dq, hwq⟩ := hwq; subst hwq)
          go_wp2
          go_roundw
          case rel => exact ⟨k + 1, by omega, by go_num, (by (repeat (first | exact Ext.refl _ | assumption | refine Ext.alloc ?_ _ | refine Ext.ext ?_ _ | refine Ext.drew ?_))), hgk⟩
          case measure => simp [intOf]; omega
end Go.Proofs.Ytendgmnbnnkpnaa.G
