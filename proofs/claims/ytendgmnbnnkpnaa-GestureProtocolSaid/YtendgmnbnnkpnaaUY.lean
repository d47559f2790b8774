/- The reference: stage, over two touches. -/
import Derived.Test.YtendgmnbnnkpnaaUS
import Derived.WalkKit
import Derived.WalkSpells
import Derived.WalkLawsBesides
import Derived.Deep.QuietTactic
import Derived.BigQuiet
import Derived.BigRegion
import Derived.Lib.Hide
import Derived.Deep.RegionWith
set_option linter.unusedSimpArgs false
set_option linter.unusedVariables false
namespace Go.Proofs.Ytendgmnbnnkpnaa.G
open Go.RowKit
set_option maxRecDepth 100000 in
set_option maxHeartbeats 4000000 in
theorem r_stage_7 (r : Rec) (t u : Tch) (hs : r.Ts = [t, u]) (h1 : TOk t) (h2 : TOk u) (hk : r.Kind = 7) (p : Int) (hp : p = 2 ∨ p = 3 ∨ p = 4 ∨ p = 5) (a : Option Addr) (cap : Nat) (w : World) (hr : RepT w a r.Ts) :
    Calls Try.prog 70 #[.agg #[.int .i64 (r).Kind, .int .i64 (r).Node, .int .i64 (r).State, .int .i64 (r).Count, .slice a (r).Ts.length cap, .int .i64 (r).L.X, .int .i64 (r).L.Y, .int .i64 (r).L.T], .int .i64 p] w fun e w' => e = .returned (gesV (stageG r p)) ∧ Ext w w' := by
  rw [hs] at hr
  rcases hr with hr | ⟨b, off, rfl, hr⟩
  · cases hr
  obtain ⟨sb, so, sc, ub, uo, uc, hm, hmu⟩ := hr.two
  have hb := hm.lt
  have hlat := Lib.hid fun w' (he : Ext w w') => r_latest t sb so sc w' h1 (hm.ss.ext he)
  have hlau := Lib.hid fun w' (he : Ext w w') => r_latest u ub uo uc w' h2 (hmu.ss.ext he)
  have hd1 := Lib.hid fun w' => r_dist (latest t) (latest u) (latest_placed h1) (latest_placed h2) w'
  have hd2 := Lib.hid fun w' => r_dist t.F u.F h1.f h2.f w'
  obtain ⟨D1, D2⟩ := dist_bd (latest_placed h1) (latest_placed h2)
  obtain ⟨E1, E2⟩ := dist_bd h1.f h2.f
  obtain ⟨p0, p1, p2, p3, p4, _⟩ := hm
  obtain ⟨q0, q1, q2, q3, q4, _⟩ := hmu
  simp only [Nat.add_assoc] at q1 q2 q3 q4
  obtain ⟨B1, B2, B3, B4, _, _⟩ := placed_bd (latest_placed h1)
  obtain ⟨C1, C2, C3, C4, _, _⟩ := placed_bd h1.f
  obtain ⟨G1, G2, G3, G4, _, _⟩ := placed_bd (latest_placed h2)
  obtain ⟨H1, H2, H3, H4, _, _⟩ := placed_bd h2.f
  have hg : stageG r p = pinchG r t u p := by simp [stageG, hs, hk]
  rw [hg, hs]
  obtain ⟨g, hg⟩ : ∃ g, pinchG r t u p = g := ⟨_, rfl⟩
  rw [hg]
  simp only [pinchG] at hg
  simp only [List.length_cons, List.length_nil, Nat.zero_add, Nat.reduceAdd]
  have b7 : (r.Kind == 7) = true := by simp [hk]
  rcases hp with hp | hp
  · subst hp
    simp only [if_true] at hg
    generalize latest t = z at *
    generalize latest u = y at *
    replace hg := Lib.hid hg
    clear hs h1 h2 hk
    go_enter Try.func70, Try.ntmps70
    go_wp2_with fail
    refine (hlat.out _ (by (repeat (first | exact Ext.refl _ | assumption | refine Ext.alloc ?_ _ | refine Ext.ext ?_ _ | refine Ext.drew ?_)))).mono ?_
    rintro x w1 ⟨rfl, d1, rfl⟩
    go_wp2
    go_region
    go_wp2_with fail
    refine (hlau.out _ (by (repeat (first | exact Ext.refl _ | assumption | refine Ext.alloc ?_ _ | refine Ext.ext ?_ _ | refine Ext.drew ?_)))).mono ?_
    rintro x w1 ⟨rfl, d2, rfl⟩
    go_wp2
    (refine wp_region_calm_ops [0, 1, 2, 3, 4, 5, 6, 7, 8, 9, 10, 11, 12] [] [] [13, 14, 15] (by kernel_rfl) (by kernel_rfl) (by simp only [List.filterMap_cons, List.filterMap_nil, List.getElem?_toArray, List.getElem?_cons_succ, List.getElem?_cons_zero]; try exact rfl) (by simp only [List.filterMap_cons, List.filterMap_nil, List.getElem?_toArray, List.getElem?_cons_succ, List.getElem?_cons_zero]; try exact rfl) (by simp only [List.filterMap_cons, List.filterMap_nil, List.getElem?_toArray, List.getElem?_cons_succ, List.getElem?_cons_zero]; try exact rfl) ?_; (repeat (first | (refine ql_plain rfl rfl ?_; intro K hK; go_big_quiet_op; go_big_quiet_on) | (refine ql_nilCheck rfl rfl rfl ?_; intro K hK; simp only [Act.put, List.setIfInBounds_toArray, List.set_cons_succ, List.set_cons_zero]; go_big_quiet_on) | (refine ql_call (fun _ => ((r_floor _ _ _ (by omega) (by omega) (by omega) (by omega)).mono (by rintro e w' ⟨rfl, rfl⟩; exact ⟨rfl, Ext.refl _⟩))) rfl rfl Try.func26 rfl (by kernel_rfl) rfl ?_; intro K hK; simp only [Act.put, List.setIfInBounds_toArray, List.set_cons_succ, List.set_cons_zero]; go_big_quiet_on) | (refine ql_skip rfl ?_; intro K hK; simp only [Act.put, List.setIfInBounds_toArray, List.set_cons_succ, List.set_cons_zero]; go_big_quiet_on))); refine ql_nil ?_)
    refine mw0 ?_; (repeat (first | (refine pl_plain rfl rfl ?_; intro K hK; go_big_quiet_op; go_big_quiet_on) | (refine pl_nilCheck rfl rfl rfl ?_; intro K hK; simp only [Act.put, List.setIfInBounds_toArray, List.set_cons_succ, List.set_cons_zero]; go_big_quiet_on))); refine pl_nil ?_; rintro w1 ⟨d1, rfl⟩ -
    go_wp2; refine only_normal ?_
    go_wp2
    (refine bodyPost_ret (v := ?_) (by simp [results, Try.results70, go_sem]; rfl) rfl ?_)
    refine ⟨?_, ?_⟩
    · rw [← hg.out]; simp [gesV]
    · (repeat (first | exact Ext.refl _ | assumption | refine Ext.alloc ?_ _ | refine Ext.ext ?_ _ | refine Ext.drew ?_))
  · have hp2 : (p == 2) = false := by simp; omega
    have hp3 : (p != 2) = true := by simp; omega
    have hp4 : ¬ p = 2 := by omega
    simp only [if_neg hp4] at hg
    replace hp4 := Lib.hid hp4
    replace hp := Lib.hid hp
    obtain ⟨D, hD⟩ : ∃ D, dist (latest t) (latest u) = D := ⟨_, rfl⟩
    obtain ⟨E, hE⟩ : ∃ E, dist t.F u.F = E := ⟨_, rfl⟩
    rw [hD] at hd1 hg D1 D2
    rw [hE] at hd2 hg E1 E2
    clear hD hE
    have hmb : 1 ≤ mx E 1 ∧ mx E 1 ≤ 2097152 := by unfold mx; split <;> omega
    obtain ⟨M1, M2⟩ := hmb
    generalize latest t = z at *
    generalize latest u = y at *
    replace hg := Lib.hid hg
    clear hs h1 h2 hk
    go_enter Try.func70, Try.ntmps70
    go_wp2_with fail
    refine (hlat.out _ (by (repeat (first | exact Ext.refl _ | assumption | refine Ext.alloc ?_ _ | refine Ext.ext ?_ _ | refine Ext.drew ?_)))).mono ?_
    rintro x w1 ⟨rfl, d1, rfl⟩
    go_wp2
    go_region
    go_wp2_with fail
    refine (hlau.out _ (by (repeat (first | exact Ext.refl _ | assumption | refine Ext.alloc ?_ _ | refine Ext.ext ?_ _ | refine Ext.drew ?_)))).mono ?_
    rintro x w1 ⟨rfl, d2, rfl⟩
    go_wp2
    (refine wp_region_calm_ops [0, 1, 2, 3, 4, 5, 6, 7, 8, 9, 10, 11, 12] [] [] [13, 14, 15] (by kernel_rfl) (by kernel_rfl) (by simp only [List.filterMap_cons, List.filterMap_nil, List.getElem?_toArray, List.getElem?_cons_succ, List.getElem?_cons_zero]; try exact rfl) (by simp only [List.filterMap_cons, List.filterMap_nil, List.getElem?_toArray, List.getElem?_cons_succ, List.getElem?_cons_zero]; try exact rfl) (by simp only [List.filterMap_cons, List.filterMap_nil, List.getElem?_toArray, List.getElem?_cons_succ, List.getElem?_cons_zero]; try exact rfl) ?_; (repeat (first | (refine ql_plain rfl rfl ?_; intro K hK; go_big_quiet_op; go_big_quiet_on) | (refine ql_nilCheck rfl rfl rfl ?_; intro K hK; simp only [Act.put, List.setIfInBounds_toArray, List.set_cons_succ, List.set_cons_zero]; go_big_quiet_on) | (refine ql_call (fun _ => ((r_floor _ _ _ (by omega) (by omega) (by omega) (by omega)).mono (by rintro e w' ⟨rfl, rfl⟩; exact ⟨rfl, Ext.refl _⟩))) rfl rfl Try.func26 rfl (by kernel_rfl) rfl ?_; intro K hK; simp only [Act.put, List.setIfInBounds_toArray, List.set_cons_succ, List.set_cons_zero]; go_big_quiet_on) | (refine ql_skip rfl ?_; intro K hK; simp only [Act.put, List.setIfInBounds_toArray, List.set_cons_succ, List.set_cons_zero]; go_big_quiet_on))); refine ql_nil ?_)
    refine mw0 ?_; (repeat (first | (refine pl_plain rfl rfl ?_; intro K hK; go_big_quiet_op; go_big_quiet_on) | (refine pl_nilCheck rfl rfl rfl ?_; intro K hK; simp only [Act.put, List.setIfInBounds_toArray, List.set_cons_succ, List.set_cons_zero]; go_big_quiet_on))); refine pl_nil ?_; rintro w1 ⟨d1, rfl⟩ -
    go_wp2; refine only_normal ?_
    go_wp2
    (refine wp_region_calm_ops [0, 1, 2, 3, 4, 5, 6, 7, 8, 9, 10, 11] [] [] [12] (by kernel_rfl) (by kernel_rfl) (by simp only [List.filterMap_cons, List.filterMap_nil, List.getElem?_toArray, List.getElem?_cons_succ, List.getElem?_cons_zero]; try exact rfl) (by simp only [List.filterMap_cons, List.filterMap_nil, List.getElem?_toArray, List.getElem?_cons_succ, List.getElem?_cons_zero]; try exact rfl) (by simp only [List.filterMap_cons, List.filterMap_nil, List.getElem?_toArray, List.getElem?_cons_succ, List.getElem?_cons_zero]; try exact rfl) ?_; (repeat (first | (refine ql_plain rfl rfl ?_; intro K hK; go_big_quiet_op; go_big_quiet_on) | (refine ql_nilCheck rfl rfl rfl ?_; intro K hK; simp only [Act.put, List.setIfInBounds_toArray, List.set_cons_succ, List.set_cons_zero]; go_big_quiet_on) | (refine ql_call (fun _ => ((r_floor _ _ _ (by omega) (by omega) (by omega) (by omega)).mono (by rintro e w' ⟨rfl, rfl⟩; exact ⟨rfl, Ext.refl _⟩))) rfl rfl Try.func26 rfl (by kernel_rfl) rfl ?_; intro K hK; simp only [Act.put, List.setIfInBounds_toArray, List.set_cons_succ, List.set_cons_zero]; go_big_quiet_on) | (refine ql_call (fun _ => hd1.out _) rfl rfl Try.func89 rfl (by kernel_rfl) rfl ?_; intro K hK; simp only [Act.put, List.setIfInBounds_toArray, List.set_cons_succ, List.set_cons_zero]; go_big_quiet_on) | (refine ql_call (fun _ => hd2.out _) rfl rfl Try.func89 rfl (by kernel_rfl) rfl ?_; intro K hK; simp only [Act.put, List.setIfInBounds_toArray, List.set_cons_succ, List.set_cons_zero]; go_big_quiet_on) | (refine ql_skip rfl ?_; intro K hK; simp only [Act.put, List.setIfInBounds_toArray, List.set_cons_succ, List.set_cons_zero]; go_big_quiet_on))); refine ql_nil ?_)
    refine mw0 ?_; (repeat (first | (refine pl_plain rfl rfl ?_; intro K hK; go_big_quiet_op; go_big_quiet_on) | (refine pl_nilCheck rfl rfl rfl ?_; intro K hK; simp only [Act.put, List.setIfInBounds_toArray, List.set_cons_succ, List.set_cons_zero]; go_big_quiet_on))); refine pl_nil ?_; rintro w1 ⟨d1, rfl⟩ -
    go_wp2; refine only_normal ?_
    go_wp2
    (refine bodyPost_ret (v := ?_) (by simp [results, Try.results70, go_sem]; rfl) rfl ?_)
    refine ⟨?_, ?_⟩
    · rw [← hg.out]; simp [gesV]
    · (repeat (first | exact Ext.refl _ | assumption | refine Ext.alloc ?_ _ | refine Ext.ext ?_ _ | refine Ext.drew ?_))
end Go.Proofs.Ytendgmnbnnkpnaa.G
