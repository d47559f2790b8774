/- The reference: certain, over one touch. -/
import Derived.Test.YtendgmnbnnkpnaaUS
import Derived.WalkKit
import Derived.WalkSpells
import Derived.WalkLawsBesides
import Derived.Deep.QuietTactic
import Derived.BigQuiet
import Derived.BigRegion
import Derived.Lib.Hide
import Derived.Deep.RegionWith
set_option linter.unusedSimpArgs false
set_option linter.unusedVariables false
namespace Go.Proofs.Ytendgmnbnnkpnaa.G
open Go.RowKit
set_option maxRecDepth 100000 in
set_option maxHeartbeats 2000000 in
theorem r_certain1 (r : Rec) (t : Tch) (hs : r.Ts = [t]) (h1 : TOk t) (hk : r.Kind = 4 ∨ r.Kind = 5 ∨ r.Kind = 6 ∨ r.Kind = 7) (a : Option Addr) (cap : Nat) (w : World) (hr : RepT w a r.Ts) :
    Calls Try.prog 90 #[.agg #[.int .i64 (r).Kind, .int .i64 (r).Node, .int .i64 (r).State, .int .i64 (r).Count, .slice a (r).Ts.length cap, .int .i64 (r).L.X, .int .i64 (r).L.Y, .int .i64 (r).L.T]] w fun e w' => e = .returned (.tuple #[.bool (certain r).1, .bool (certain r).2]) ∧ Ext w w' := by
  rw [hs] at hr
  rcases hr with hr | ⟨b, off, rfl, hr⟩
  · cases hr
  obtain ⟨sb, so, sc, hm⟩ := hr.one
  have hb := hm.lt
  have hlat := Lib.hid fun w' (he : Ext w w') => r_latest t sb so sc w' h1 (hm.ss.ext he)
  obtain ⟨p0, p1, p2, p3, p4, _⟩ := hm
  by_cases h7 : r.Kind = 7
  · have hw : certain r = (false, false) := by simp [certain, hs, h7]
    have b7 : (r.Kind == 7) = true := by simp [h7]
    rw [hw, hs]
    simp only [List.length_cons, List.length_nil, Nat.zero_add]
    clear hw hs h7 hk
    go_enter Try.func90, Try.ntmps90
    go_wp2
    (refine bodyPost_ret (v := ?_) (by simp [results, Try.results90, go_sem]; rfl) rfl ?_)
    refine ⟨rfl, ?_⟩
    (repeat (first | exact Ext.refl _ | assumption | refine Ext.alloc ?_ _ | refine Ext.ext ?_ _ | refine Ext.drew ?_))
  have b7 : (r.Kind == 7) = false := by simp [h7]
  obtain ⟨B1, B2, B3, B4, B5, B6⟩ := placed_bd (latest_placed h1)
  obtain ⟨C1, C2, C3, C4, C5, C6⟩ := placed_bd h1.f
  have hx : size ((latest t).X - t.F.X) = mx ((latest t).X - t.F.X) (t.F.X - (latest t).X) := by unfold size; rw [show -((latest t).X - t.F.X) = t.F.X - (latest t).X by omega]
  have hy : size ((latest t).Y - t.F.Y) = mx ((latest t).Y - t.F.Y) (t.F.Y - (latest t).Y) := by unfold size; rw [show -((latest t).Y - t.F.Y) = t.F.Y - (latest t).Y by omega]
  have hc : certain r = (if r.Kind = 4 then (let c := decide (8 < size ((latest t).X - t.F.X) ∧ size ((latest t).Y - t.F.Y) ≤ size ((latest t).X - t.F.X)); (c, !c && decide (8 < size ((latest t).Y - t.F.Y)))) else if r.Kind = 5 then (let c := decide (8 < size ((latest t).Y - t.F.Y) ∧ size ((latest t).X - t.F.X) < size ((latest t).Y - t.F.Y)); (c, !c && decide (8 < size ((latest t).X - t.F.X)))) else (decide (8 < mx (size ((latest t).X - t.F.X)) (size ((latest t).Y - t.F.Y))), false)) := by simp [certain, hs, h7]
  rw [hc, hx, hy, hs]
  clear hc hx hy
  simp only [List.length_cons, List.length_nil, Nat.zero_add]
  generalize latest t = z at *
  obtain ⟨X, eX⟩ : ∃ X, mx (z.X - t.F.X) (t.F.X - z.X) = X := ⟨_, rfl⟩
  obtain ⟨Y, eY⟩ : ∃ Y, mx (z.Y - t.F.Y) (t.F.Y - z.Y) = Y := ⟨_, rfl⟩
  rw [eX, eY]
  clear hs h1
  rcases hk with h4 | h4 | h4 | h4
  · have b4 : (r.Kind == 4) = true := by simp [h4]
    simp only [h4, if_true, Bool.decide_and]
    clear h4 h7
    rcases t1 : decide (8 < X) with _ | _ <;> rcases t2 : decide (8 < Y) with _ | _ <;> rcases t3 : decide (Y ≤ X) with _ | _
    all_goals
      go_enter Try.func90, Try.ntmps90
      go_wp2_with fail
      refine (hlat.out _ (by (repeat (first | exact Ext.refl _ | assumption | refine Ext.alloc ?_ _ | refine Ext.ext ?_ _ | refine Ext.drew ?_)))).mono ?_
      rintro x w1 ⟨rfl, d1, rfl⟩
      go_wp2
      (refine wp_region_ext (by kernel_rfl) (by kernel_rfl) ?_; (repeat (go_big_quiet_step ((fail)))); refine wpQuiet_nil ?_; intro _ hwq; obtain ⟨dq, hwq⟩ := hwq; subst hwq)
      go_wp2
      (refine bodyPost_ret (v := ?_) (by simp [results, Try.results90, go_sem]; rfl) rfl ?_)
      refine ⟨rfl, ?_⟩
      (repeat (first | exact Ext.refl _ | assumption | refine Ext.alloc ?_ _ | refine Ext.ext ?_ _ | refine Ext.drew ?_))
  · have b4 : (r.Kind == 4) = false := by simp [h4]
    have b5 : (r.Kind == 5) = true := by simp [h4]
    simp only [h4, show ¬ (5 : Int) = 4 by decide, if_false, if_true, Bool.decide_and]
    clear h4 h7
    rcases t1 : decide (8 < X) with _ | _ <;> rcases t2 : decide (8 < Y) with _ | _ <;> rcases t3 : decide (X < Y) with _ | _
    all_goals
      go_enter Try.func90, Try.ntmps90
      go_wp2_with fail
      refine (hlat.out _ (by (repeat (first | exact Ext.refl _ | assumption | refine Ext.alloc ?_ _ | refine Ext.ext ?_ _ | refine Ext.drew ?_)))).mono ?_
      rintro x w1 ⟨rfl, d1, rfl⟩
      go_wp2
      (refine wp_region_ext (by kernel_rfl) (by kernel_rfl) ?_; (repeat (go_big_quiet_step ((fail)))); refine wpQuiet_nil ?_; intro _ hwq; obtain ⟨dq, hwq⟩ := hwq; subst hwq)
      go_wp2
      (refine bodyPost_ret (v := ?_) (by simp [results, Try.results90, go_sem]; rfl) rfl ?_)
      refine ⟨rfl, ?_⟩
      (repeat (first | exact Ext.refl _ | assumption | refine Ext.alloc ?_ _ | refine Ext.ext ?_ _ | refine Ext.drew ?_))
  · have b4 : (r.Kind == 4) = false := by simp [h4]
    have b5 : (r.Kind == 5) = false := by simp [h4]
    simp only [h4, show ¬ (6 : Int) = 4 by decide, show ¬ (6 : Int) = 5 by decide, if_false]
    clear h4 h7
    rcases t1 : decide (8 < mx X Y) with _ | _
    all_goals
      go_enter Try.func90, Try.ntmps90
      go_wp2_with fail
      refine (hlat.out _ (by (repeat (first | exact Ext.refl _ | assumption | refine Ext.alloc ?_ _ | refine Ext.ext ?_ _ | refine Ext.drew ?_)))).mono ?_
      rintro x w1 ⟨rfl, d1, rfl⟩
      go_wp2
      (refine wp_region_ext (by kernel_rfl) (by kernel_rfl) ?_; (repeat (go_big_quiet_step ((fail)))); refine wpQuiet_nil ?_; intro _ hwq; obtain ⟨dq, hwq⟩ := hwq; subst hwq)
      go_wp2
      (refine bodyPost_ret (v := ?_) (by simp [results, Try.results90, go_sem]; rfl) rfl ?_)
      refine ⟨rfl, ?_⟩
      (repeat (first | exact Ext.refl _ | assumption | refine Ext.alloc ?_ _ | refine Ext.ext ?_ _ | refine Ext.drew ?_))
  · omega
end Go.Proofs.Ytendgmnbnnkpnaa.G
