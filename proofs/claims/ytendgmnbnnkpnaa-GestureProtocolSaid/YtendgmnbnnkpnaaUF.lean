/- moves, walked. -/
import Derived.Test.YtendgmnbnnkpnaaUD
import Derived.Test.YtendgmnbnnkpnaaUE
import Derived.WalkKit
import Derived.WalkSpells
import Derived.WalkLawsBesides
import Derived.Deep.QuietTactic
import Derived.BigQuiet
import Derived.BigRegion
import Derived.Lib.Hide
import Derived.Deep.RegionWith
set_option linter.unusedSimpArgs false
set_option linter.unusedVariables false
namespace Go.Proofs.Ytendgmnbnnkpnaa.G
open Go.RowKit

theorem pinch_any (k n s c lx ly lt p : Int) (b off cap : Nat) (t u : Tch) (sb so scap ub uo ucap : Nat) (w : World) (h : TOk t) (hu : TOk u) (hm : TchAt w b off t sb so scap) (hmu : TchAt w b (off + 5) u ub uo ucap) :
    Calls Try.prog 64 #[.agg #[.int .i64 k, .int .i64 n, .int .i64 s, .int .i64 c, .slice (some ⟨b, off, none⟩) 2 cap, .int .i64 lx, .int .i64 ly, .int .i64 lt], .int .i64 p] w fun e w' =>
      e = .returned (gesV (pinchG ⟨k, n, s, c, [t, u], ⟨lx, ly, lt⟩⟩ t u p)) ∧ Ext w w' := by
  by_cases hp : p = 2
  · subst hp; exact pinch_begin k n s c lx ly lt b off cap t u sb so scap ub uo ucap w h hu hm hmu
  · exact pinch_later k n s c lx ly lt p b off cap t u sb so scap ub uo ucap w h hu hm hmu hp
set_option maxHeartbeats 400000 in
theorem moves_pinch (n s c lx ly lt p : Int) (b off cap : Nat) (t u : Tch) (sb so scap ub uo ucap : Nat) (w : World) (h : TOk t) (hu : TOk u) (hm : TchAt w b off t sb so scap) (hmu : TchAt w b (off + 5) u ub uo ucap) :
    Calls Try.prog 39 #[.agg #[.int .i64 7, .int .i64 n, .int .i64 s, .int .i64 c, .slice (some ⟨b, off, none⟩) 2 cap, .int .i64 lx, .int .i64 ly, .int .i64 lt], .int .i64 p] w fun e w' =>
      e = .returned (gesV (stageG ⟨7, n, s, c, [t, u], ⟨lx, ly, lt⟩⟩ p)) ∧ Ext w w' := by
  have hpi := Lib.hid fun w' (he : Ext w w') => pinch_any 7 n s c lx ly lt p b off cap t u sb so scap ub uo ucap w' h hu (hm.ext he) (hmu.ext he)
  rw [show stageG ⟨7, n, s, c, [t, u], ⟨lx, ly, lt⟩⟩ p = pinchG ⟨7, n, s, c, [t, u], ⟨lx, ly, lt⟩⟩ t u p from rfl]
  generalize pinchG ⟨7, n, s, c, [t, u], ⟨lx, ly, lt⟩⟩ t u p = g at *
  simp only [gesV] at *
  clear hm hmu
  go_enter Try.func39, Try.ntmps39
  go_wp2_with (go_at_call 64; refine (hpi.out _ (by (repeat (first | exact Ext.refl _ | assumption | refine Ext.alloc ?_ _ | refine Ext.ext ?_ _ | refine Ext.drew ?_)))).mono ?_; rintro e w' ⟨rfl, d, rfl⟩)
  (refine bodyPost_ret (v := ?_) (by simp [results, Try.results39, go_sem]; rfl) rfl ?_)
  refine ⟨rfl, ?_⟩
  (repeat (first | exact Ext.refl _ | assumption | refine Ext.alloc ?_ _ | refine Ext.ext ?_ _ | refine Ext.drew ?_))
set_option maxHeartbeats 2000000 in
theorem moves_drag (k n s c lx ly lt p : Int) (b off cap : Nat) (t : Tch) (sb so scap : Nat) (w : World) (hk : k = 4 ∨ k = 5 ∨ k = 6) (hp : p = 2 ∨ p = 3 ∨ p = 4 ∨ p = 5) (h : TOk t) (hm : TchAt w b off t sb so scap) :
    Calls Try.prog 39 #[.agg #[.int .i64 k, .int .i64 n, .int .i64 s, .int .i64 c, .slice (some ⟨b, off, none⟩) 1 cap, .int .i64 lx, .int .i64 ly, .int .i64 lt], .int .i64 p] w fun e w' =>
      e = .returned (gesV (stageG ⟨k, n, s, c, [t], ⟨lx, ly, lt⟩⟩ p)) ∧ Ext w w' := by
  have hb := hm.lt
  have hlt := Lib.hid fun w' (he : Ext w w') => latest_t t sb so scap w' h (hm.ss.ext he)
  have hv := Lib.hid fun w' (he : Ext w w') => vel_t t sb so scap w' h (hm.ss.ext he)
  have hmv := Lib.hid fun k n s c lx ly lt w' (he : Ext w w') => movement_any k n s c lx ly lt 1 b off cap t sb so scap w' (by omega) (by omega) h (hm.ext he)
  have b1 := placed_bd h.f
  have b2 := placed_bd (latest_placed h)
  obtain ⟨c0, c1, c2, c3, c4, _⟩ := hm
  have hk7 : (k == 7) = false := by simp; omega
  rw [show stageG ⟨k, n, s, c, [t], ⟨lx, ly, lt⟩⟩ p = dragG ⟨k, n, s, c, [t], ⟨lx, ly, lt⟩⟩ t p from rfl]
  obtain ⟨g, hg⟩ : ∃ g, dragG ⟨k, n, s, c, [t], ⟨lx, ly, lt⟩⟩ t p = g := ⟨_, rfl⟩
  rw [hg]
  simp only [dragG] at hg
  generalize latest t = z at *
  replace hk := Lib.hid hk
  rcases hp with rfl | rfl | rfl | rfl
  all_goals
    replace hg := Lib.hid hg
    go_enter Try.func39, Try.ntmps39
    go_wp2_with (first | (go_at_call 65; refine (hlt.out _ (by (repeat (first | exact Ext.refl _ | assumption | refine Ext.alloc ?_ _ | refine Ext.ext ?_ _ | refine Ext.drew ?_)))).mono ?_; rintro e w' ⟨rfl, d, rfl⟩) | (go_at_call 24; refine (hv.out _ (by (repeat (first | exact Ext.refl _ | assumption | refine Ext.alloc ?_ _ | refine Ext.ext ?_ _ | refine Ext.drew ?_)))).mono ?_; rintro e w' ⟨rfl, d, rfl⟩) | (go_at_call 66; refine (hmv.out _ _ _ _ _ _ _ _ (by (repeat (first | exact Ext.refl _ | assumption | refine Ext.alloc ?_ _ | refine Ext.ext ?_ _ | refine Ext.drew ?_)))).mono ?_; rintro e w' ⟨rfl, d, rfl⟩))
    go_region
    go_wp2
    all_goals (refine bodyPost_ret (v := ?_) (by simp [results, Try.results39, go_sem]; rfl) rfl ?_)
    all_goals refine ⟨?_, ?_⟩
    all_goals first | ((repeat (first | exact Ext.refl _ | assumption | refine Ext.alloc ?_ _ | refine Ext.ext ?_ _ | refine Ext.drew ?_)); done) | (rw [← hg.out]; simp only [gesV]; have := hk.out; simp_all; done) | skip
end Go.Proofs.Ytendgmnbnnkpnaa.G
