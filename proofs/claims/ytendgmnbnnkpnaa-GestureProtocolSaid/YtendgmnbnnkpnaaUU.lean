/- The reference: certain, over two touches. -/
import Derived.Test.YtendgmnbnnkpnaaUT
import Derived.WalkKit
import Derived.WalkSpells
import Derived.WalkLawsBesides
import Derived.Deep.QuietTactic
import Derived.BigQuiet
import Derived.BigRegion
import Derived.Lib.Hide
import Derived.Deep.RegionWith
set_option linter.unusedSimpArgs false
set_option linter.unusedVariables false
namespace Go.Proofs.Ytendgmnbnnkpnaa.G
open Go.RowKit
set_option maxRecDepth 100000 in
set_option maxHeartbeats 2000000 in
theorem r_certain2 (r : Rec) (t u : Tch) (hs : r.Ts = [t, u]) (h1 : TOk t) (h2 : TOk u) (h7 : r.Kind = 7) (a : Option Addr) (cap : Nat) (w : World) (hr : RepT w a r.Ts) :
    Calls Try.prog 90 #[.agg #[.int .i64 (r).Kind, .int .i64 (r).Node, .int .i64 (r).State, .int .i64 (r).Count, .slice a (r).Ts.length cap, .int .i64 (r).L.X, .int .i64 (r).L.Y, .int .i64 (r).L.T]] w fun e w' => e = .returned (.tuple #[.bool (certain r).1, .bool (certain r).2]) ∧ Ext w w' := by
  rw [hs] at hr
  rcases hr with hr | ⟨b, off, rfl, hr⟩
  · cases hr
  obtain ⟨sb, so, sc, ub, uo, uc, hm, hmu⟩ := hr.two
  have hb := hm.lt
  have hlat := Lib.hid fun w' (he : Ext w w') => r_latest t sb so sc w' h1 (hm.ss.ext he)
  have hlau := Lib.hid fun w' (he : Ext w w') => r_latest u ub uo uc w' h2 (hmu.ss.ext he)
  have hd1 := Lib.hid fun w' => r_dist (latest t) (latest u) (latest_placed h1) (latest_placed h2) w'
  have hd2 := Lib.hid fun w' => r_dist t.F u.F h1.f h2.f w'
  obtain ⟨D1, D2⟩ := dist_bd (latest_placed h1) (latest_placed h2)
  obtain ⟨E1, E2⟩ := dist_bd h1.f h2.f
  obtain ⟨p0, p1, p2, p3, p4, _⟩ := hm
  obtain ⟨q0, q1, q2, q3, q4, _⟩ := hmu
  simp only [Nat.add_assoc] at q1 q2 q3 q4
  have b7 : (r.Kind == 7) = true := by simp [h7]
  have hw : certain r = (decide (8 < mx (dist (latest t) (latest u) - mx (dist t.F u.F) 1) (-(dist (latest t) (latest u) - mx (dist t.F u.F) 1))), false) := by simp only [certain, hs, size]; rfl
  rw [hw, hs]
  simp only [List.length_cons, List.length_nil, Nat.zero_add, Nat.reduceAdd]
  generalize dist (latest t) (latest u) = D at *
  generalize dist t.F u.F = E at *
  have hmb : 1 ≤ mx E 1 ∧ mx E 1 ≤ 2097152 := by unfold mx; split <;> omega
  obtain ⟨M1, M2⟩ := hmb
  clear hw hs h7 h1 h2
  go_enter Try.func90, Try.ntmps90
  go_wp2
  go_region
  all_goals
    go_wp2
    (refine wp_region_ext (by kernel_rfl) (by kernel_rfl) ?_; (repeat (go_big_quiet_step ((first | (go_at_call_of 88 (t.ID); exact Calls.quiet_ext (hlat.out _ (by (repeat (first | exact Ext.refl _ | assumption | refine Ext.alloc ?_ _ | refine Ext.ext ?_ _ | refine Ext.drew ?_))))) | (go_at_call_of 88 (u.ID); exact Calls.quiet_ext (hlau.out _ (by (repeat (first | exact Ext.refl _ | assumption | refine Ext.alloc ?_ _ | refine Ext.ext ?_ _ | refine Ext.drew ?_))))) | (go_at_call_of 89 (t.F.X); exact Calls.quiet_ext (hd2.out _)) | (go_at_call 89; exact Calls.quiet_ext (hd1.out _)))))); refine wpQuiet_nil ?_; intro _ hwq; obtain ⟨dq, hwq⟩ := hwq; subst hwq)
    go_wp2
    (refine bodyPost_ret (v := ?_) (by simp [results, Try.results90, go_sem]; rfl) rfl ?_)
    refine ⟨rfl, ?_⟩
    (repeat (first | exact Ext.refl _ | assumption | refine Ext.alloc ?_ _ | refine Ext.ext ?_ _ | refine Ext.drew ?_))
theorem r_certain (r : Rec) (h : ROk r) (hk : cont r.Kind = true) (hne : r.Ts ≠ []) (a : Option Addr) (cap : Nat) (w : World) (hr : RepT w a r.Ts) :
    Calls Try.prog 90 #[.agg #[.int .i64 (r).Kind, .int .i64 (r).Node, .int .i64 (r).State, .int .i64 (r).Count, .slice a (r).Ts.length cap, .int .i64 (r).L.X, .int .i64 (r).L.Y, .int .i64 (r).L.T]] w fun e w' => e = .returned (.tuple #[.bool (certain r).1, .bool (certain r).2]) ∧ Ext w w' := by
  rcases h.shape with ht | ⟨t, ht, h1⟩ | ⟨t, u, ht, h1, h2, h7⟩
  · exact absurd ht hne
  · exact r_certain1 r t ht h1 (by simp [cont, btw] at hk; omega) a cap w hr
  · exact r_certain2 r t u ht h1 h2 h7 a cap w hr
end Go.Proofs.Ytendgmnbnnkpnaa.G
