/- Samples in memory; latest and Velocity, walked. -/
import Derived.Test.YtendgmnbnnkpnaaG1
import Derived.WalkKit
import Derived.WalkSpells
import Derived.WalkLawsBesides
import Derived.Deep.QuietTactic
import Derived.BigQuiet
import Derived.BigRegion
import Derived.Lib.Hide
import Derived.Deep.RegionWith
set_option linter.unusedSimpArgs false
set_option linter.unusedVariables false
namespace Go.Proofs.Ytendgmnbnnkpnaa.G
open Go.RowKit

/-- a sample lies at a place -/
def SmpAt (w : World) (b o : Nat) (s : Smp) : Prop :=
  w.cell? ⟨b, o, none⟩ = some (.int .i64 s.X) ∧ w.cell? ⟨b, o + 1, none⟩ = some (.int .i64 s.Y) ∧ w.cell? ⟨b, o + 2, none⟩ = some (.int .i64 s.T)
/-- samples lie in a row -/
def SsAt (w : World) (b off : Nat) (l : List Smp) : Prop := ∀ i, i < l.length → SmpAt w b (off + i * 3) (nth l i)
theorem SsAt.lt {w : World} {b off : Nat} {l : List Smp} (h : SsAt w b off l) (hl : 0 < l.length) : b < w.heap.size :=
  World.block_lt_of_cell? w ⟨b, off + 0 * 3, none⟩ (h 0 hl).1
theorem SsAt.ext {w w' : World} {b off : Nat} {l : List Smp} (h : SsAt w b off l) (he : Ext w w') : SsAt w' b off l :=
  fun i hi => ⟨he.cell_some (h i hi).1, he.cell_some (h i hi).2.1, he.cell_some (h i hi).2.2⟩

theorem placed_yes (x y t : Int) (w : World) (h : placed ⟨x, y, t⟩ = true) :
    Calls Try.prog 40 #[.agg #[.int .i64 x, .int .i64 y, .int .i64 t]] w fun e w' => e = .returned (.bool true) ∧ Ext w w' := by
  have := placed_any x y t w; rw [h] at this; exact this
theorem placed_no (x y t : Int) (w : World) (h : placed ⟨x, y, t⟩ = false) :
    Calls Try.prog 40 #[.agg #[.int .i64 x, .int .i64 y, .int .i64 t]] w fun e w' => e = .returned (.bool false) ∧ Ext w w' := by
  have := placed_any x y t w; rw [h] at this; exact this

set_option maxHeartbeats 400000 in
theorem latest_any (i x y t : Int) (cap b off : Nat) (l : List Smp) (w : World) (hpos : 0 < l.length) (hl : l.length ≤ 4611686018427387904) (hs : SsAt w b off l) :
    Calls Try.prog 65 #[.agg #[.int .i64 i, .int .i64 x, .int .i64 y, .int .i64 t, .slice (some ⟨b, off, none⟩) l.length cap]] w fun e w' =>
      e = .returned (.agg #[.int .i64 (nth l (l.length - 1)).X, .int .i64 (nth l (l.length - 1)).Y, .int .i64 (nth l (l.length - 1)).T]) ∧ Ext w w' := by
  obtain ⟨c0, c1, c2⟩ := hs (l.length - 1) (by omega)
  have hb := hs.lt hpos
  generalize nth l (l.length - 1) = s at *
  generalize l.length = n at *
  clear hs
  go_enter Try.func65, Try.ntmps65
  go_wp2
  (refine bodyPost_ret (v := ?_) (by simp [results, Try.results65, go_sem]; rfl) rfl ?_)
  refine ⟨rfl, ?_⟩
  (repeat (first | exact Ext.refl _ | assumption | refine Ext.alloc ?_ _ | refine Ext.ext ?_ _ | refine Ext.drew ?_))

set_option maxHeartbeats 400000 in
theorem vel_nil (a : Option Addr) (cap : Nat) (w : World) :
    Calls Try.prog 24 #[.slice a 0 cap] w fun e w' => e = .returned (.tuple #[.int .i64 0, .int .i64 0]) ∧ Ext w w' := by
  go_enter Try.func24, Try.ntmps24
  go_wp2
  go_ret2
  refine ⟨rfl, ?_⟩
  (repeat (first | exact Ext.refl _ | assumption | refine Ext.alloc ?_ _ | refine Ext.ext ?_ _ | refine Ext.drew ?_))

set_option maxHeartbeats 1000000 in
theorem vel_any (cap b off : Nat) (l : List Smp) (w : World) (hpos : 0 < l.length) (hl : l.length ≤ 4611686018427387904) (hs : SsAt w b off l) :
    Calls Try.prog 24 #[.slice (some ⟨b, off, none⟩) l.length cap] w fun e w' =>
      e = .returned (.tuple #[.int .i64 (vel l).1, .int .i64 (vel l).2]) ∧ Ext w w' := by
  have hb := hs.lt hpos
  have hn : ((l.length : Int) == 0) = false := by simp; intro h; simp [h] at hpos
  go_enter Try.func24, Try.ntmps24
  go_wp2
  go_loopw [16] (fun i wr => ∃ k : Nat, k ≤ l.length ∧ i = .int .i64 k ∧ Ext w wr ∧ Hid (∀ j, j < k → good l j = true)) (fun i _ => l.length - (intOf i).toNat)
  case atStart => exact ⟨0, Nat.zero_le _, rfl, Ext.refl _, fun j hj => absurd hj (by omega)⟩
  case round =>
    obtain ⟨k, hk, rfl, ⟨d, rfl⟩, hg⟩ := hrel
    by_cases hlt : k < l.length
    · obtain ⟨c0, c1, c2⟩ := hs k hlt
      cases hp : placed (nth l k)
      · -- not placed
        have hbad : Hid (velOk l = false) := velOk_not l k hlt (by simp [good, hp])
        generalize nth l k = s at *
        go_wp2
        (refine wp_region_ext (by kernel_rfl) (by kernel_rfl) ?_; (repeat (go_big_quiet_step ((go_at_call 40; exact Calls.quiet_ext (placed_no _ _ _ _ hp))))); refine wpQuiet_nil ?_; intro _ hwq; obtain ⟨dq, hwq⟩ := hwq; subst hwq)
        go_wp2
        go_ret2
        refine ⟨?_, ?_⟩
        · rw [vel_bad l hbad.out]; rfl
        · (repeat (first | exact Ext.refl _ | assumption | refine Ext.alloc ?_ _ | refine Ext.ext ?_ _ | refine Ext.drew ?_))
      · by_cases hk0 : k = 0
        · have hgk : Hid (∀ j, j < k + 1 → good l j = true) := fun j hj => by
            obtain rfl : j = k := by omega
            unfold good; rw [hp]; simp [hk0]
          clear hg
          generalize nth l k = s at *
          have hk1 : decide (0 < k) = false := by simp; omega
          have hk2 : k < 1 := by omega
          clear hk0
          go_wp2
          (refine wp_region_ext (by kernel_rfl) (by kernel_rfl) ?_; (repeat (go_big_quiet_step ((go_at_call 40; exact Calls.quiet_ext (placed_yes _ _ _ _ hp))))); refine wpQuiet_nil ?_; intro _ hwq; obtain ⟨dq, hwq⟩ := hwq; subst hwq)
          go_wp2
          go_roundw
          case rel => exact ⟨k + 1, by omega, by go_num, (by (repeat (first | exact Ext.refl _ | assumption | refine Ext.alloc ?_ _ | refine Ext.ext ?_ _ | refine Ext.drew ?_))), hgk⟩
          case measure => simp [intOf]; omega
        · have hk1 : 0 < k := by omega
          have hk2 : decide (0 < k) = true := by simp; omega
          obtain ⟨_, _, e2⟩ := hs (k - 1) (by omega)
          by_cases hlate : (nth l k).T < (nth l (k - 1)).T
          · have hbad : Hid (velOk l = false) := velOk_not l k hlt (by simp [good, hp, hk0, hlate])
            clear hg
            generalize nth l k = s at *
            generalize nth l (k - 1) = s' at *
            go_wp2
            (refine wp_region_ext (by kernel_rfl) (by kernel_rfl) ?_; (repeat (go_big_quiet_step ((go_at_call 40; exact Calls.quiet_ext (placed_yes _ _ _ _ hp))))); refine wpQuiet_nil ?_; intro _ hwq; obtain ⟨dq, hwq⟩ := hwq; subst hwq)
            go_wp2
            go_ret2
            refine ⟨?_, ?_⟩
            · rw [vel_bad l hbad.out]; rfl
            · (repeat (first | exact Ext.refl _ | assumption | refine Ext.alloc ?_ _ | refine Ext.ext ?_ _ | refine Ext.drew ?_))
          · have hgk : Hid (∀ j, j < k + 1 → good l j = true) := fun j hj => by
              by_cases hj' : j < k
              · exact hg j hj'
              · obtain rfl : j = k := by omega
                simp only [good, hp, Bool.true_and, Bool.or_eq_true, Bool.not_eq_true', decide_eq_false_iff_not]
                exact .inr hlate
            clear hg
            generalize nth l k = s at *
            generalize nth l (k - 1) = s' at *
            go_wp2
            (refine wp_region_ext (by kernel_rfl) (by kernel_rfl) ?_; (repeat (go_big_quiet_step ((go_at_call 40; exact Calls.quiet_ext (placed_yes _ _ _ _ hp))))); refine wpQuiet_nil ?_; intro _ hwq; obtain ⟨dq, hwq⟩ := hwq; subst hwq)
            go_wp2
            go_roundw
            case rel => exact ⟨k + 1, by omega, by go_num, (by (repeat (first | exact Ext.refl _ | assumption | refine Ext.alloc ?_ _ | refine Ext.ext ?_ _ | refine Ext.drew ?_))), hgk⟩
            case measure => simp [intOf]; omega
    · obtain rfl : k = l.length := by omega
      obtain ⟨c0, c1, c2⟩ := hs (l.length - 1) (by omega)
      have hv : Hid (velOk l = true) := velOk_of l hg
      have hlb := placed_bd (good_placed l _ (hg (l.length - 1) (by omega)))
      have hvel : Hid (∀ f, (l.find? fun s => decide ((nth l (l.length - 1)).T - 100 ≤ s.T)).getD (nth l (l.length - 1)) = f → vel l = (fl (1000 * ((nth l (l.length - 1)).X - f.X)) ((nth l (l.length - 1)).T - f.T), fl (1000 * ((nth l (l.length - 1)).Y - f.Y)) ((nth l (l.length - 1)).T - f.T))) := fun f hf => vel_ok l hpos (velOk_of l hg) f hf
      have htm : Hid (∀ k, k < l.length → (nth l k).T ≤ (nth l (l.length - 1)).T) := fun k hk => times_le l (velOk_of l hg) _ _ (by omega) (by omega)
      clear hg hlt hk
      generalize nth l (l.length - 1) = z at *
      go_wp2
      go_loopw [49] (fun i wr => ∃ k : Nat, k ≤ l.length ∧ i = .int .i64 k ∧ Ext (((w.ext d).alloc (Obj.cells #[.int .i64 z.X, .int .i64 z.Y, .int .i64 z.T] 24)).alloc (Obj.cells #[.int .i64 z.X, .int .i64 z.Y, .int .i64 z.T] 24)) wr ∧ Hid (∀ j, j < k → decide (z.T - 100 ≤ (nth l j).T) = false)) (fun i _ => l.length - (intOf i).toNat)
      case atStart => exact ⟨0, Nat.zero_le _, rfl, Ext.refl _, fun j hj => absurd hj (by omega)⟩
      case round =>
        obtain ⟨k, hk, rfl, ⟨d', rfl⟩, hg⟩ := hrel
        by_cases hlt : k < l.length
        · obtain ⟨c0, c1, c2⟩ := hs k hlt
          have hkb := placed_bd (good_placed l _ (velOk_good l hv.out k hlt))
          have hkt := htm k hlt
          by_cases hh : z.T - 100 ≤ (nth l k).T
          · have hfin := hvel (nth l k) (by rw [find_of l (fun s => decide (z.T - 100 ≤ s.T)) k hlt hg (by simpa using hh)]; rfl)
            clear hvel htm hg
            replace hfin := Lib.hid hfin
            generalize nth l k = s at *
            go_wp2
            (refine wp_region_ext (by kernel_rfl) (by kernel_rfl) ?_; (repeat (go_big_quiet_step ((go_at_call 41; exact Calls.quiet_same (floor_any _ _ _ (by omega) (by omega) (by omega) (by omega)))))); refine wpQuiet_nil ?_; intro _ hwq; obtain ⟨dq, hwq⟩ := hwq; subst hwq)
            go_wp2
            go_ret2
            refine ⟨?_, ?_⟩
            · rw [hfin.out]; rfl
            · (repeat (first | exact Ext.refl _ | assumption | refine Ext.alloc ?_ _ | refine Ext.ext ?_ _ | refine Ext.drew ?_))
          · have hgk : Hid (∀ j, j < k + 1 → decide (z.T - 100 ≤ (nth l j).T) = false) := fun j hj => by
              by_cases hj' : j < k
              · exact hg j hj'
              · obtain rfl : j = k := by omega
                simpa using hh
            clear hg hvel htm
            generalize nth l k = s at *
            go_wp2
            go_roundw
            case rel => exact ⟨k + 1, by omega, by go_num, (by (repeat (first | exact Ext.refl _ | assumption | refine Ext.alloc ?_ _ | refine Ext.ext ?_ _ | refine Ext.drew ?_))), hgk⟩
            case measure => simp [intOf]; omega
        · obtain rfl : k = l.length := by omega
          have hfin := hvel z (by rw [find_none l (fun s => decide (z.T - 100 ≤ s.T)) hg]; rfl)
          clear hvel htm hg
          replace hfin := Lib.hid hfin
          go_wp2
          (refine wp_region_ext (by kernel_rfl) (by kernel_rfl) ?_; (repeat (go_big_quiet_step ((go_at_call 41; exact Calls.quiet_same (floor_any _ _ _ (by omega) (by omega) (by omega) (by omega)))))); refine wpQuiet_nil ?_; intro _ hwq; obtain ⟨dq, hwq⟩ := hwq; subst hwq)
          go_wp2
          go_ret2
          refine ⟨?_, ?_⟩
          · rw [hfin.out]; simp only [Int.sub_self, Int.mul_zero]; rfl
          · (repeat (first | exact Ext.refl _ | assumption | refine Ext.alloc ?_ _ | refine Ext.ext ?_ _ | refine Ext.drew ?_))
end Go.Proofs.Ytendgmnbnnkpnaa.G
