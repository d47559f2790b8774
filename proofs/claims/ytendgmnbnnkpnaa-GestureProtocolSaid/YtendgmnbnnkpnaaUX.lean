/- The reference: stage, over one touch, kind 6 (printed by t4.py). -/
import Derived.Test.YtendgmnbnnkpnaaUS
import Derived.WalkKit
import Derived.WalkSpells
import Derived.WalkLawsBesides
import Derived.Deep.QuietTactic
import Derived.BigQuiet
import Derived.BigRegion
import Derived.Lib.Hide
import Derived.Deep.RegionWith
set_option linter.unusedSimpArgs false
set_option linter.unusedVariables false
namespace Go.Proofs.Ytendgmnbnnkpnaa.G
open Go.RowKit
set_option maxRecDepth 100000 in
set_option maxHeartbeats 4000000 in
theorem r_stage_6 (r : Rec) (t : Tch) (hs : r.Ts = [t]) (h1 : TOk t) (hk : r.Kind = 6) (p : Int) (hp : p = 2 ∨ p = 3 ∨ p = 4 ∨ p = 5) (a : Option Addr) (cap : Nat) (w : World) (hr : RepT w a r.Ts) :
    Calls Try.prog 70 #[.agg #[.int .i64 (r).Kind, .int .i64 (r).Node, .int .i64 (r).State, .int .i64 (r).Count, .slice a (r).Ts.length cap, .int .i64 (r).L.X, .int .i64 (r).L.Y, .int .i64 (r).L.T], .int .i64 p] w fun e w' => e = .returned (gesV (stageG r p)) ∧ Ext w w' := by
  rw [hs] at hr
  rcases hr with hr | ⟨b, off, rfl, hr⟩
  · cases hr
  obtain ⟨sb, so, sc, hm⟩ := hr.one
  have hb := hm.lt
  have hlat := Lib.hid fun w' (he : Ext w w') => r_latest t sb so sc w' h1 (hm.ss.ext he)
  have hv := Lib.hid fun w' (he : Ext w w') => r_vel_t t sb so sc w' h1 (hm.ss.ext he)
  obtain ⟨p0, p1, p2, p3, p4, _⟩ := hm
  obtain ⟨B1, B2, B3, B4, _, _⟩ := placed_bd (latest_placed h1)
  obtain ⟨C1, C2, C3, C4, _, _⟩ := placed_bd h1.f
  have hg : stageG r p = dragG r t p := by simp [stageG, hs]
  rw [hg, hs]
  obtain ⟨g, hg⟩ : ∃ g, dragG r t p = g := ⟨_, rfl⟩
  rw [hg]
  simp only [dragG] at hg
  simp only [List.length_cons, List.length_nil, Nat.zero_add, Nat.reduceAdd]
  generalize latest t = z at *
  generalize vel t.S = V at *
  have b7 : (r.Kind == 7) = false := by simp [hk]
  have b4 : (r.Kind == 4) = false := by simp [hk]
  have b5 : (r.Kind == 5) = false := by simp [hk]
  simp only [hk] at hg
  replace hg := Lib.hid hg
  clear hs h1
  replace hk := Lib.hid hk
  rcases hp with rfl | rfl | rfl | rfl
  all_goals
    go_enter Try.func70, Try.ntmps70
    go_wp2_with fail
    refine (hlat.out _ (by (repeat (first | exact Ext.refl _ | assumption | refine Ext.alloc ?_ _ | refine Ext.ext ?_ _ | refine Ext.drew ?_)))).mono ?_
    rintro x w1 ⟨rfl, d1, rfl⟩
    go_wp2
    go_region
    go_wp2
    try (go_region; first | (go_wp2_with fail; refine (hv.out _ (by (repeat (first | exact Ext.refl _ | assumption | refine Ext.alloc ?_ _ | refine Ext.ext ?_ _ | refine Ext.drew ?_)))).mono ?_; rintro x w1 ⟨rfl, d2, rfl⟩; go_wp2) | go_wp2)
    (refine bodyPost_ret (v := ?_) (by simp [results, Try.results70, go_sem]; rfl) rfl ?_)
    refine ⟨?_, ?_⟩
    · rw [← hg.out]; simp [gesV, hk.out]
    · (repeat (first | exact Ext.refl _ | assumption | refine Ext.alloc ?_ _ | refine Ext.ext ?_ _ | refine Ext.drew ?_))
end Go.Proofs.Ytendgmnbnnkpnaa.G
