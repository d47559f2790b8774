/- GestureAxes, walked (printed by m4.py). -/
import Derived.Test.YtendgmnbnnkpnaaA0
import Derived.WalkKit
import Derived.WalkSpells
import Derived.WalkLawsBesides
import Derived.Deep.QuietTactic
import Derived.BigQuiet
import Derived.BigRegion
import Derived.Lib.Hide
import Derived.Deep.RegionWith
set_option linter.unusedSimpArgs false
set_option linter.unusedVariables false
namespace Go.Proofs.Ytendgmnbnnkpnaa.G
open Go.RowKit
set_option maxRecDepth 100000 in
set_option maxHeartbeats 4000000 in
theorem axes_110 (x y : Int) (hx1 : -128 ≤ x) (hx2 : x ≤ 127) (hy1 : -128 ≤ y) (hy2 : y ≤ 127) (h1 : decide (8 < mx x (-x)) = true) (h2 : decide (8 < mx y (-y)) = true) (h3 : decide (mx y (-y) ≤ mx x (-x)) = false) (h4 : decide (mx x (-x) < mx y (-y)) = true)
    (w : World) : Calls Try.prog 6 #[.int .i8 x, .int .i8 y] w fun e w' => e = .returned (.bool true) ∧ Ext w w' := by
  have F4 := Lib.hid (axes_facts 4 x y (by simp) (by omega) (by omega) _ _ _ _ h1 h2 h3 h4)
  have F5 := Lib.hid (axes_facts 5 x y (by simp) (by omega) (by omega) _ _ _ _ h1 h2 h3 h4)
  have F6 := Lib.hid (axes_facts 6 x y (by simp) (by omega) (by omega) _ _ _ _ h1 h2 h3 h4)
  go_enter Try.func6, Try.ntmps6
  go_wp2
  clear h1 h2 h3 h4
  refine gen_at (p := fun W => Code.wp _ _ _ _ W) ?_
  intro W1 hW1
  have hE0 : Hid (Ext w W1) := by
    rw [hW1]
    show Ext _ _
    (repeat (first | exact Ext.refl _ | assumption | refine Ext.alloc ?_ _ | refine Ext.ext ?_ _ | refine Ext.drew ?_))
  have p0 : W1.cell? ⟨w.heap.size, 0, none⟩ = some (.bool false) := by rw [hW1]; go_simp
  have p1 : W1.cell? ⟨w.heap.size, 1, none⟩ = some (.bool true) := by rw [hW1]; go_simp
  have p2 : W1.cell? ⟨w.heap.size, 2, none⟩ = some (.bool true) := by rw [hW1]; go_simp
  have hlt := World.block_lt_of_cell? W1 _ p0
  simp only at hlt
  clear hW1
  go_loopw [9] (fun i wr => ∃ k : Nat, k ≤ 3 ∧ i = .int .i64 k ∧ Ext W1 wr) (fun i _ => 3 - (intOf i).toNat)
  case atStart => exact ⟨0, by omega, rfl, Ext.refl _⟩
  case round =>
    obtain ⟨k, hk, rfl, d0, rfl⟩ := hrel
    obtain rfl | rfl | rfl | rfl : k = 0 ∨ k = 1 ∨ k = 2 ∨ k = 3 := by omega
    · obtain ⟨q1, q2, f1, f2, f4, ha⟩ := F4.out
      replace f1 := Lib.hid f1
      replace f2 := Lib.hid f2
      replace f4 := Lib.hid f4
      change q2.2.1 = 2 at ha
      change Hid (WinC q2.1 []) at f4
      go_wp2_with fail
      refine (New_ok 4 1 _ rfl rfl).mono ?_
      rintro x w1 ⟨rfl, d1, rfl⟩
      go_wp2_with fail
      (refine wp_region_segs (fun i => if i = 2 then some (FeedF q1, FeedS q1) else none) [([0, 1], .m, 2)] [3, 4] [5, 6] [7] (by kernel_rfl) (by kernel_rfl) (by simp only [List.map_cons, List.map_nil, List.filterMap_cons, List.filterMap_nil, List.getElem?_toArray, List.getElem?_cons_succ, List.getElem?_cons_zero]; try exact rfl) (by simp only [List.filterMap_cons, List.filterMap_nil, List.getElem?_toArray, List.getElem?_cons_succ, List.getElem?_cons_zero]; try exact rfl) (by simp only [List.filterMap_cons, List.filterMap_nil, List.getElem?_toArray, List.getElem?_cons_succ, List.getElem?_cons_zero]; try exact rfl) (by simp only [List.filterMap_cons, List.filterMap_nil, List.getElem?_toArray, List.getElem?_cons_succ, List.getElem?_cons_zero]; try exact rfl) (by decide) ?_)
      (refine sg_m ?_; (repeat (first | (refine ql_plain rfl rfl ?_; intro K hK; go_big_quiet_op; go_big_quiet_on) | (refine ql_nilCheck rfl rfl rfl ?_; intro K hK; simp only [Act.put, List.setIfInBounds_toArray, List.set_cons_succ, List.set_cons_zero]; go_big_quiet_on) | (refine ql_call (fun _ => event_any _ _ _ _ _) rfl rfl Try.func23 rfl (by kernel_rfl) rfl ?_; intro K hK; simp only [Act.put, List.setIfInBounds_toArray, List.set_cons_succ, List.set_cons_zero]; go_big_quiet_on) | (refine ql_skip rfl ?_; intro K hK; simp only [Act.put, List.setIfInBounds_toArray, List.set_cons_succ, List.set_cons_zero]; go_big_quiet_on))); refine ql_nil ?_)
      (refine sg_call (f := 20) (FeedF q1) (FeedS q1) rfl (FeedF.shp q1) (FeedF.stable q1) (fun d => f1.out _ _ _ (newR_rep _ _ _ _)) (by simp only [List.getElem?_toArray, List.getElem?_cons_succ, List.getElem?_cons_zero]; try exact rfl) rfl rfl Try.func20 rfl (by kernel_rfl) rfl ?_; intro u hu hS K hK; obtain ⟨a1, c1, va1, vn1, vc1, rfl⟩ := hS; simp only [Act.put, List.setIfInBounds_toArray, List.set_cons_succ, List.set_cons_zero]; refine hK _ ?_; clear hK K)
      (refine sg_last ?_; (repeat (first | (refine ql_plain rfl rfl ?_; intro K hK; go_big_quiet_op; go_big_quiet_on) | (refine ql_nilCheck rfl rfl rfl ?_; intro K hK; simp only [Act.put, List.setIfInBounds_toArray, List.set_cons_succ, List.set_cons_zero]; go_big_quiet_on) | fail | (refine ql_skip rfl ?_; intro K hK; simp only [Act.put, List.setIfInBounds_toArray, List.set_cons_succ, List.set_cons_zero]; go_big_quiet_on))); refine ql_nil ?_; (repeat (first | (refine pl_plain rfl rfl ?_; intro K hK; go_big_quiet_op; go_big_quiet_on) | (refine pl_nilCheck rfl rfl rfl ?_; intro K hK; simp only [Act.put, List.setIfInBounds_toArray, List.set_cons_succ, List.set_cons_zero]; go_big_quiet_on))); refine pl_nil ?_)
      rintro w1 he1 ⟨_, hf1⟩
      obtain ⟨d2, rfl⟩ := he1
      have hr1 := Lib.hid (FeedF.use hf1).1
      clear hf1
      go_wp2; refine only_normal ?_
      go_wp2_with fail
      (refine wp_region_segs (fun i => if i = 6 then some (FeedF q2, FeedS q2) else none) [([0, 1, 2, 3, 4, 5], .m, 6)] [7, 8] [9, 10] [11, 12, 13] (by kernel_rfl) (by kernel_rfl) (by simp only [List.map_cons, List.map_nil, List.filterMap_cons, List.filterMap_nil, List.getElem?_toArray, List.getElem?_cons_succ, List.getElem?_cons_zero]; try exact rfl) (by simp only [List.filterMap_cons, List.filterMap_nil, List.getElem?_toArray, List.getElem?_cons_succ, List.getElem?_cons_zero]; try exact rfl) (by simp only [List.filterMap_cons, List.filterMap_nil, List.getElem?_toArray, List.getElem?_cons_succ, List.getElem?_cons_zero]; try exact rfl) (by simp only [List.filterMap_cons, List.filterMap_nil, List.getElem?_toArray, List.getElem?_cons_succ, List.getElem?_cons_zero]; try exact rfl) (by decide) ?_)
      (refine sg_m ?_; (repeat (first | (refine ql_plain rfl rfl ?_; intro K hK; go_big_quiet_op; go_big_quiet_on) | (refine ql_nilCheck rfl rfl rfl ?_; intro K hK; simp only [Act.put, List.setIfInBounds_toArray, List.set_cons_succ, List.set_cons_zero]; go_big_quiet_on) | (refine ql_call (fun _ => event_any _ _ _ _ _) rfl rfl Try.func23 rfl (by kernel_rfl) rfl ?_; intro K hK; simp only [Act.put, List.setIfInBounds_toArray, List.set_cons_succ, List.set_cons_zero]; go_big_quiet_on) | (refine ql_skip rfl ?_; intro K hK; simp only [Act.put, List.setIfInBounds_toArray, List.set_cons_succ, List.set_cons_zero]; go_big_quiet_on))); refine ql_nil ?_)
      (refine sg_call (f := 20) (FeedF q2) (FeedS q2) rfl (FeedF.shp q2) (FeedF.stable q2) (fun d => f2.out _ _ _ ((hr1.out.turn (b := (((W1.ext d0).alloc (.cells #[.int .i64 4, .int .i64 5, .int .i64 6] 3)).ext d1).heap.size) (by (repeat (first | exact Like.refl _ _ | refine Like.ext ?_ _ | refine Like.alloc ?_ _ | refine Like.swap ?_ (by simp <;> omega) _ _))) (heap_some_ext (heap_alloc_new (((W1.ext d0).alloc (.cells #[.int .i64 4, .int .i64 5, .int .i64 6] 3)).ext d1) _) (by (repeat (first | exact Ext.refl _ | assumption | refine Ext.alloc ?_ _ | refine Ext.ext ?_ _ | refine Ext.drew ?_))))).ext (Ext.ext (Ext.refl _) d)).rep) (by simp only [List.getElem?_toArray, List.getElem?_cons_succ, List.getElem?_cons_zero]; try exact rfl) rfl rfl Try.func20 rfl (by kernel_rfl) rfl ?_; intro u hu hS K hK; obtain ⟨a2, c2, va2, vn2, vc2, rfl⟩ := hS; simp only [Act.put, List.setIfInBounds_toArray, List.set_cons_succ, List.set_cons_zero]; refine hK _ ?_; clear hK K)
      (refine sg_last ?_; (repeat (first | (refine ql_plain rfl rfl ?_; intro K hK; go_big_quiet_op; go_big_quiet_on) | (refine ql_nilCheck rfl rfl rfl ?_; intro K hK; simp only [Act.put, List.setIfInBounds_toArray, List.set_cons_succ, List.set_cons_zero]; go_big_quiet_on) | fail | (refine ql_skip rfl ?_; intro K hK; simp only [Act.put, List.setIfInBounds_toArray, List.set_cons_succ, List.set_cons_zero]; go_big_quiet_on))); refine ql_nil ?_; (repeat (first | (refine pl_plain rfl rfl ?_; intro K hK; go_big_quiet_op; go_big_quiet_on) | (refine pl_nilCheck rfl rfl rfl ?_; intro K hK; simp only [Act.put, List.setIfInBounds_toArray, List.set_cons_succ, List.set_cons_zero]; go_big_quiet_on))); refine pl_nil ?_)
      rintro w1 he1 ⟨_, hf2⟩
      obtain ⟨d3, rfl⟩ := he1
      have hr2 := Lib.hid (FeedF.use hf2).1
      clear hf2 hr1
      go_wp2; refine only_normal ?_
      go_wp2_with fail
      refine (f4.out _ _ _ (hr2.out.turn (b := (((W1.ext d0).alloc (.cells #[.int .i64 4, .int .i64 5, .int .i64 6] 3)).ext d1).heap.size) (by (repeat (first | exact Like.refl _ _ | refine Like.ext ?_ _ | refine Like.alloc ?_ _ | refine Like.swap ?_ (by simp <;> omega) _ _))) (heap_some_ext (heap_alloc_new (((W1.ext d0).alloc (.cells #[.int .i64 4, .int .i64 5, .int .i64 6] 3)).ext d1) _) (by (repeat (first | exact Ext.refl _ | assumption | refine Ext.alloc ?_ _ | refine Ext.ext ?_ _ | refine Ext.drew ?_))))).rep).mono ?_
      rintro x W ⟨a5, c5, v, rfl, hx, _, hg⟩
      have hE : Hid (Ext W1 W) := Ext.trans (by (repeat (first | exact Ext.refl _ | assumption | refine Ext.alloc ?_ _ | refine Ext.ext ?_ _ | refine Ext.drew ?_))) hx
      clear hx hr2
      have e0 := hE.out.cell_some p0
      have e1 := hE.out.cell_some p1
      have e2 := hE.out.cell_some p2
      have hbw := World.block_lt_of_cell? W _ e0
      simp only at hbw
      obtain ⟨ag, cg, rfl⟩ := hg.none
      go_wp2
      go_roundw
      case rel => exact ⟨1, by omega, rfl, Ext.trans hE.out (by (repeat (first | exact Ext.refl _ | assumption | refine Ext.alloc ?_ _ | refine Ext.ext ?_ _ | refine Ext.drew ?_)))⟩
      case measure => simp [intOf]
    · obtain ⟨q1, q2, f1, f2, f4, ha⟩ := F5.out
      replace f1 := Lib.hid f1
      replace f2 := Lib.hid f2
      replace f4 := Lib.hid f4
      change q2.2.1 = 1 at ha
      change Hid (WinC q2.1 [⟨5, 1, 2, 0, 0, 0, 0, 1000, 0, 0⟩, ⟨5, 1, 3, x, y, 0, y, 1000, 0, 0⟩]) at f4
      go_wp2_with fail
      refine (New_ok 5 1 _ rfl rfl).mono ?_
      rintro x w1 ⟨rfl, d1, rfl⟩
      go_wp2_with fail
      (refine wp_region_segs (fun i => if i = 2 then some (FeedF q1, FeedS q1) else none) [([0, 1], .m, 2)] [3, 4] [5, 6] [7] (by kernel_rfl) (by kernel_rfl) (by simp only [List.map_cons, List.map_nil, List.filterMap_cons, List.filterMap_nil, List.getElem?_toArray, List.getElem?_cons_succ, List.getElem?_cons_zero]; try exact rfl) (by simp only [List.filterMap_cons, List.filterMap_nil, List.getElem?_toArray, List.getElem?_cons_succ, List.getElem?_cons_zero]; try exact rfl) (by simp only [List.filterMap_cons, List.filterMap_nil, List.getElem?_toArray, List.getElem?_cons_succ, List.getElem?_cons_zero]; try exact rfl) (by simp only [List.filterMap_cons, List.filterMap_nil, List.getElem?_toArray, List.getElem?_cons_succ, List.getElem?_cons_zero]; try exact rfl) (by decide) ?_)
      (refine sg_m ?_; (repeat (first | (refine ql_plain rfl rfl ?_; intro K hK; go_big_quiet_op; go_big_quiet_on) | (refine ql_nilCheck rfl rfl rfl ?_; intro K hK; simp only [Act.put, List.setIfInBounds_toArray, List.set_cons_succ, List.set_cons_zero]; go_big_quiet_on) | (refine ql_call (fun _ => event_any _ _ _ _ _) rfl rfl Try.func23 rfl (by kernel_rfl) rfl ?_; intro K hK; simp only [Act.put, List.setIfInBounds_toArray, List.set_cons_succ, List.set_cons_zero]; go_big_quiet_on) | (refine ql_skip rfl ?_; intro K hK; simp only [Act.put, List.setIfInBounds_toArray, List.set_cons_succ, List.set_cons_zero]; go_big_quiet_on))); refine ql_nil ?_)
      (refine sg_call (f := 20) (FeedF q1) (FeedS q1) rfl (FeedF.shp q1) (FeedF.stable q1) (fun d => f1.out _ _ _ (newR_rep _ _ _ _)) (by simp only [List.getElem?_toArray, List.getElem?_cons_succ, List.getElem?_cons_zero]; try exact rfl) rfl rfl Try.func20 rfl (by kernel_rfl) rfl ?_; intro u hu hS K hK; obtain ⟨a1, c1, va1, vn1, vc1, rfl⟩ := hS; simp only [Act.put, List.setIfInBounds_toArray, List.set_cons_succ, List.set_cons_zero]; refine hK _ ?_; clear hK K)
      (refine sg_last ?_; (repeat (first | (refine ql_plain rfl rfl ?_; intro K hK; go_big_quiet_op; go_big_quiet_on) | (refine ql_nilCheck rfl rfl rfl ?_; intro K hK; simp only [Act.put, List.setIfInBounds_toArray, List.set_cons_succ, List.set_cons_zero]; go_big_quiet_on) | fail | (refine ql_skip rfl ?_; intro K hK; simp only [Act.put, List.setIfInBounds_toArray, List.set_cons_succ, List.set_cons_zero]; go_big_quiet_on))); refine ql_nil ?_; (repeat (first | (refine pl_plain rfl rfl ?_; intro K hK; go_big_quiet_op; go_big_quiet_on) | (refine pl_nilCheck rfl rfl rfl ?_; intro K hK; simp only [Act.put, List.setIfInBounds_toArray, List.set_cons_succ, List.set_cons_zero]; go_big_quiet_on))); refine pl_nil ?_)
      rintro w1 he1 ⟨_, hf1⟩
      obtain ⟨d2, rfl⟩ := he1
      have hr1 := Lib.hid (FeedF.use hf1).1
      clear hf1
      go_wp2; refine only_normal ?_
      go_wp2_with fail
      (refine wp_region_segs (fun i => if i = 6 then some (FeedF q2, FeedS q2) else none) [([0, 1, 2, 3, 4, 5], .m, 6)] [7, 8] [9, 10] [11, 12, 13] (by kernel_rfl) (by kernel_rfl) (by simp only [List.map_cons, List.map_nil, List.filterMap_cons, List.filterMap_nil, List.getElem?_toArray, List.getElem?_cons_succ, List.getElem?_cons_zero]; try exact rfl) (by simp only [List.filterMap_cons, List.filterMap_nil, List.getElem?_toArray, List.getElem?_cons_succ, List.getElem?_cons_zero]; try exact rfl) (by simp only [List.filterMap_cons, List.filterMap_nil, List.getElem?_toArray, List.getElem?_cons_succ, List.getElem?_cons_zero]; try exact rfl) (by simp only [List.filterMap_cons, List.filterMap_nil, List.getElem?_toArray, List.getElem?_cons_succ, List.getElem?_cons_zero]; try exact rfl) (by decide) ?_)
      (refine sg_m ?_; (repeat (first | (refine ql_plain rfl rfl ?_; intro K hK; go_big_quiet_op; go_big_quiet_on) | (refine ql_nilCheck rfl rfl rfl ?_; intro K hK; simp only [Act.put, List.setIfInBounds_toArray, List.set_cons_succ, List.set_cons_zero]; go_big_quiet_on) | (refine ql_call (fun _ => event_any _ _ _ _ _) rfl rfl Try.func23 rfl (by kernel_rfl) rfl ?_; intro K hK; simp only [Act.put, List.setIfInBounds_toArray, List.set_cons_succ, List.set_cons_zero]; go_big_quiet_on) | (refine ql_skip rfl ?_; intro K hK; simp only [Act.put, List.setIfInBounds_toArray, List.set_cons_succ, List.set_cons_zero]; go_big_quiet_on))); refine ql_nil ?_)
      (refine sg_call (f := 20) (FeedF q2) (FeedS q2) rfl (FeedF.shp q2) (FeedF.stable q2) (fun d => f2.out _ _ _ ((hr1.out.turn (b := (((W1.ext d0).alloc (.cells #[.int .i64 4, .int .i64 5, .int .i64 6] 3)).ext d1).heap.size) (by (repeat (first | exact Like.refl _ _ | refine Like.ext ?_ _ | refine Like.alloc ?_ _ | refine Like.swap ?_ (by simp <;> omega) _ _))) (heap_some_ext (heap_alloc_new (((W1.ext d0).alloc (.cells #[.int .i64 4, .int .i64 5, .int .i64 6] 3)).ext d1) _) (by (repeat (first | exact Ext.refl _ | assumption | refine Ext.alloc ?_ _ | refine Ext.ext ?_ _ | refine Ext.drew ?_))))).ext (Ext.ext (Ext.refl _) d)).rep) (by simp only [List.getElem?_toArray, List.getElem?_cons_succ, List.getElem?_cons_zero]; try exact rfl) rfl rfl Try.func20 rfl (by kernel_rfl) rfl ?_; intro u hu hS K hK; obtain ⟨a2, c2, va2, vn2, vc2, rfl⟩ := hS; simp only [Act.put, List.setIfInBounds_toArray, List.set_cons_succ, List.set_cons_zero]; refine hK _ ?_; clear hK K)
      (refine sg_last ?_; (repeat (first | (refine ql_plain rfl rfl ?_; intro K hK; go_big_quiet_op; go_big_quiet_on) | (refine ql_nilCheck rfl rfl rfl ?_; intro K hK; simp only [Act.put, List.setIfInBounds_toArray, List.set_cons_succ, List.set_cons_zero]; go_big_quiet_on) | fail | (refine ql_skip rfl ?_; intro K hK; simp only [Act.put, List.setIfInBounds_toArray, List.set_cons_succ, List.set_cons_zero]; go_big_quiet_on))); refine ql_nil ?_; (repeat (first | (refine pl_plain rfl rfl ?_; intro K hK; go_big_quiet_op; go_big_quiet_on) | (refine pl_nilCheck rfl rfl rfl ?_; intro K hK; simp only [Act.put, List.setIfInBounds_toArray, List.set_cons_succ, List.set_cons_zero]; go_big_quiet_on))); refine pl_nil ?_)
      rintro w1 he1 ⟨_, hf2⟩
      obtain ⟨d3, rfl⟩ := he1
      have hr2 := Lib.hid (FeedF.use hf2).1
      clear hf2 hr1
      go_wp2; refine only_normal ?_
      go_wp2_with fail
      refine (f4.out _ _ _ (hr2.out.turn (b := (((W1.ext d0).alloc (.cells #[.int .i64 4, .int .i64 5, .int .i64 6] 3)).ext d1).heap.size) (by (repeat (first | exact Like.refl _ _ | refine Like.ext ?_ _ | refine Like.alloc ?_ _ | refine Like.swap ?_ (by simp <;> omega) _ _))) (heap_some_ext (heap_alloc_new (((W1.ext d0).alloc (.cells #[.int .i64 4, .int .i64 5, .int .i64 6] 3)).ext d1) _) (by (repeat (first | exact Ext.refl _ | assumption | refine Ext.alloc ?_ _ | refine Ext.ext ?_ _ | refine Ext.drew ?_))))).rep).mono ?_
      rintro x W ⟨a5, c5, v, rfl, hx, _, hg⟩
      have hE : Hid (Ext W1 W) := Ext.trans (by (repeat (first | exact Ext.refl _ | assumption | refine Ext.alloc ?_ _ | refine Ext.ext ?_ _ | refine Ext.drew ?_))) hx
      clear hx hr2
      have e0 := hE.out.cell_some p0
      have e1 := hE.out.cell_some p1
      have e2 := hE.out.cell_some p2
      have hbw := World.block_lt_of_cell? W _ e0
      simp only at hbw
      obtain ⟨b, off, cg, rfl, hcg, hdg⟩ := repG_pair hg
      have g1 : W.cell? ⟨b, off + 2, none⟩ = some (.int .i64 2) := hcg 2 _ rfl
      have g2 : W.cell? ⟨b, off + 3, none⟩ = some (.int .i64 0) := hcg 3 _ rfl
      have g3 : W.cell? ⟨b, off + 10 + 2, none⟩ = some (.int .i64 3) := hdg 2 _ rfl
      have g4 : W.cell? ⟨b, off + 10 + 3, none⟩ = some (.int .i64 x) := hdg 3 _ rfl
      have g5 : W.cell? ⟨b, off + 10 + 4, none⟩ = some (.int .i64 y) := hdg 4 _ rfl
      have g6 : W.cell? ⟨b, off + 10 + 5, none⟩ = some (.int .i64 0) := hdg 5 _ rfl
      have g7 : W.cell? ⟨b, off + 10 + 6, none⟩ = some (.int .i64 y) := hdg 6 _ rfl
      have hb := World.block_lt_of_cell? W _ g1
      simp only at hb
      clear hcg hdg
      go_wp2
      go_roundw
      case rel => exact ⟨2, by omega, rfl, Ext.trans hE.out (by (repeat (first | exact Ext.refl _ | assumption | refine Ext.alloc ?_ _ | refine Ext.ext ?_ _ | refine Ext.drew ?_)))⟩
      case measure => simp [intOf]
    · obtain ⟨q1, q2, f1, f2, f4, ha⟩ := F6.out
      replace f1 := Lib.hid f1
      replace f2 := Lib.hid f2
      replace f4 := Lib.hid f4
      change q2.2.1 = 1 at ha
      change Hid (WinC q2.1 [⟨6, 1, 2, 0, 0, 0, 0, 1000, 0, 0⟩, ⟨6, 1, 3, x, y, x, y, 1000, 0, 0⟩]) at f4
      go_wp2_with fail
      refine (New_ok 6 1 _ rfl rfl).mono ?_
      rintro x w1 ⟨rfl, d1, rfl⟩
      go_wp2_with fail
      (refine wp_region_segs (fun i => if i = 2 then some (FeedF q1, FeedS q1) else none) [([0, 1], .m, 2)] [3, 4] [5, 6] [7] (by kernel_rfl) (by kernel_rfl) (by simp only [List.map_cons, List.map_nil, List.filterMap_cons, List.filterMap_nil, List.getElem?_toArray, List.getElem?_cons_succ, List.getElem?_cons_zero]; try exact rfl) (by simp only [List.filterMap_cons, List.filterMap_nil, List.getElem?_toArray, List.getElem?_cons_succ, List.getElem?_cons_zero]; try exact rfl) (by simp only [List.filterMap_cons, List.filterMap_nil, List.getElem?_toArray, List.getElem?_cons_succ, List.getElem?_cons_zero]; try exact rfl) (by simp only [List.filterMap_cons, List.filterMap_nil, List.getElem?_toArray, List.getElem?_cons_succ, List.getElem?_cons_zero]; try exact rfl) (by decide) ?_)
      (refine sg_m ?_; (repeat (first | (refine ql_plain rfl rfl ?_; intro K hK; go_big_quiet_op; go_big_quiet_on) | (refine ql_nilCheck rfl rfl rfl ?_; intro K hK; simp only [Act.put, List.setIfInBounds_toArray, List.set_cons_succ, List.set_cons_zero]; go_big_quiet_on) | (refine ql_call (fun _ => event_any _ _ _ _ _) rfl rfl Try.func23 rfl (by kernel_rfl) rfl ?_; intro K hK; simp only [Act.put, List.setIfInBounds_toArray, List.set_cons_succ, List.set_cons_zero]; go_big_quiet_on) | (refine ql_skip rfl ?_; intro K hK; simp only [Act.put, List.setIfInBounds_toArray, List.set_cons_succ, List.set_cons_zero]; go_big_quiet_on))); refine ql_nil ?_)
      (refine sg_call (f := 20) (FeedF q1) (FeedS q1) rfl (FeedF.shp q1) (FeedF.stable q1) (fun d => f1.out _ _ _ (newR_rep _ _ _ _)) (by simp only [List.getElem?_toArray, List.getElem?_cons_succ, List.getElem?_cons_zero]; try exact rfl) rfl rfl Try.func20 rfl (by kernel_rfl) rfl ?_; intro u hu hS K hK; obtain ⟨a1, c1, va1, vn1, vc1, rfl⟩ := hS; simp only [Act.put, List.setIfInBounds_toArray, List.set_cons_succ, List.set_cons_zero]; refine hK _ ?_; clear hK K)
      (refine sg_last ?_; (repeat (first | (refine ql_plain rfl rfl ?_; intro K hK; go_big_quiet_op; go_big_quiet_on) | (refine ql_nilCheck rfl rfl rfl ?_; intro K hK; simp only [Act.put, List.setIfInBounds_toArray, List.set_cons_succ, List.set_cons_zero]; go_big_quiet_on) | fail | (refine ql_skip rfl ?_; intro K hK; simp only [Act.put, List.setIfInBounds_toArray, List.set_cons_succ, List.set_cons_zero]; go_big_quiet_on))); refine ql_nil ?_; (repeat (first | (refine pl_plain rfl rfl ?_; intro K hK; go_big_quiet_op; go_big_quiet_on) | (refine pl_nilCheck rfl rfl rfl ?_; intro K hK; simp only [Act.put, List.setIfInBounds_toArray, List.set_cons_succ, List.set_cons_zero]; go_big_quiet_on))); refine pl_nil ?_)
      rintro w1 he1 ⟨_, hf1⟩
      obtain ⟨d2, rfl⟩ := he1
      have hr1 := Lib.hid (FeedF.use hf1).1
      clear hf1
      go_wp2; refine only_normal ?_
      go_wp2_with fail
      (refine wp_region_segs (fun i => if i = 6 then some (FeedF q2, FeedS q2) else none) [([0, 1, 2, 3, 4, 5], .m, 6)] [7, 8] [9, 10] [11, 12, 13] (by kernel_rfl) (by kernel_rfl) (by simp only [List.map_cons, List.map_nil, List.filterMap_cons, List.filterMap_nil, List.getElem?_toArray, List.getElem?_cons_succ, List.getElem?_cons_zero]; try exact rfl) (by simp only [List.filterMap_cons, List.filterMap_nil, List.getElem?_toArray, List.getElem?_cons_succ, List.getElem?_cons_zero]; try exact rfl) (by simp only [List.filterMap_cons, List.filterMap_nil, List.getElem?_toArray, List.getElem?_cons_succ, List.getElem?_cons_zero]; try exact rfl) (by simp only [List.filterMap_cons, List.filterMap_nil, List.getElem?_toArray, List.getElem?_cons_succ, List.getElem?_cons_zero]; try exact rfl) (by decide) ?_)
      (refine sg_m ?_; (repeat (first | (refine ql_plain rfl rfl ?_; intro K hK; go_big_quiet_op; go_big_quiet_on) | (refine ql_nilCheck rfl rfl rfl ?_; intro K hK; simp only [Act.put, List.setIfInBounds_toArray, List.set_cons_succ, List.set_cons_zero]; go_big_quiet_on) | (refine ql_call (fun _ => event_any _ _ _ _ _) rfl rfl Try.func23 rfl (by kernel_rfl) rfl ?_; intro K hK; simp only [Act.put, List.setIfInBounds_toArray, List.set_cons_succ, List.set_cons_zero]; go_big_quiet_on) | (refine ql_skip rfl ?_; intro K hK; simp only [Act.put, List.setIfInBounds_toArray, List.set_cons_succ, List.set_cons_zero]; go_big_quiet_on))); refine ql_nil ?_)
      (refine sg_call (f := 20) (FeedF q2) (FeedS q2) rfl (FeedF.shp q2) (FeedF.stable q2) (fun d => f2.out _ _ _ ((hr1.out.turn (b := (((W1.ext d0).alloc (.cells #[.int .i64 4, .int .i64 5, .int .i64 6] 3)).ext d1).heap.size) (by (repeat (first | exact Like.refl _ _ | refine Like.ext ?_ _ | refine Like.alloc ?_ _ | refine Like.swap ?_ (by simp <;> omega) _ _))) (heap_some_ext (heap_alloc_new (((W1.ext d0).alloc (.cells #[.int .i64 4, .int .i64 5, .int .i64 6] 3)).ext d1) _) (by (repeat (first | exact Ext.refl _ | assumption | refine Ext.alloc ?_ _ | refine Ext.ext ?_ _ | refine Ext.drew ?_))))).ext (Ext.ext (Ext.refl _) d)).rep) (by simp only [List.getElem?_toArray, List.getElem?_cons_succ, List.getElem?_cons_zero]; try exact rfl) rfl rfl Try.func20 rfl (by kernel_rfl) rfl ?_; intro u hu hS K hK; obtain ⟨a2, c2, va2, vn2, vc2, rfl⟩ := hS; simp only [Act.put, List.setIfInBounds_toArray, List.set_cons_succ, List.set_cons_zero]; refine hK _ ?_; clear hK K)
      (refine sg_last ?_; (repeat (first | (refine ql_plain rfl rfl ?_; intro K hK; go_big_quiet_op; go_big_quiet_on) | (refine ql_nilCheck rfl rfl rfl ?_; intro K hK; simp only [Act.put, List.setIfInBounds_toArray, List.set_cons_succ, List.set_cons_zero]; go_big_quiet_on) | fail | (refine ql_skip rfl ?_; intro K hK; simp only [Act.put, List.setIfInBounds_toArray, List.set_cons_succ, List.set_cons_zero]; go_big_quiet_on))); refine ql_nil ?_; (repeat (first | (refine pl_plain rfl rfl ?_; intro K hK; go_big_quiet_op; go_big_quiet_on) | (refine pl_nilCheck rfl rfl rfl ?_; intro K hK; simp only [Act.put, List.setIfInBounds_toArray, List.set_cons_succ, List.set_cons_zero]; go_big_quiet_on))); refine pl_nil ?_)
      rintro w1 he1 ⟨_, hf2⟩
      obtain ⟨d3, rfl⟩ := he1
      have hr2 := Lib.hid (FeedF.use hf2).1
      clear hf2 hr1
      go_wp2; refine only_normal ?_
      go_wp2_with fail
      refine (f4.out _ _ _ (hr2.out.turn (b := (((W1.ext d0).alloc (.cells #[.int .i64 4, .int .i64 5, .int .i64 6] 3)).ext d1).heap.size) (by (repeat (first | exact Like.refl _ _ | refine Like.ext ?_ _ | refine Like.alloc ?_ _ | refine Like.swap ?_ (by simp <;> omega) _ _))) (heap_some_ext (heap_alloc_new (((W1.ext d0).alloc (.cells #[.int .i64 4, .int .i64 5, .int .i64 6] 3)).ext d1) _) (by (repeat (first | exact Ext.refl _ | assumption | refine Ext.alloc ?_ _ | refine Ext.ext ?_ _ | refine Ext.drew ?_))))).rep).mono ?_
      rintro x W ⟨a5, c5, v, rfl, hx, _, hg⟩
      have hE : Hid (Ext W1 W) := Ext.trans (by (repeat (first | exact Ext.refl _ | assumption | refine Ext.alloc ?_ _ | refine Ext.ext ?_ _ | refine Ext.drew ?_))) hx
      clear hx hr2
      have e0 := hE.out.cell_some p0
      have e1 := hE.out.cell_some p1
      have e2 := hE.out.cell_some p2
      have hbw := World.block_lt_of_cell? W _ e0
      simp only at hbw
      obtain ⟨b, off, cg, rfl, hcg, hdg⟩ := repG_pair hg
      have g1 : W.cell? ⟨b, off + 2, none⟩ = some (.int .i64 2) := hcg 2 _ rfl
      have g2 : W.cell? ⟨b, off + 3, none⟩ = some (.int .i64 0) := hcg 3 _ rfl
      have g3 : W.cell? ⟨b, off + 10 + 2, none⟩ = some (.int .i64 3) := hdg 2 _ rfl
      have g4 : W.cell? ⟨b, off + 10 + 3, none⟩ = some (.int .i64 x) := hdg 3 _ rfl
      have g5 : W.cell? ⟨b, off + 10 + 4, none⟩ = some (.int .i64 y) := hdg 4 _ rfl
      have g6 : W.cell? ⟨b, off + 10 + 5, none⟩ = some (.int .i64 x) := hdg 5 _ rfl
      have g7 : W.cell? ⟨b, off + 10 + 6, none⟩ = some (.int .i64 y) := hdg 6 _ rfl
      have hb := World.block_lt_of_cell? W _ g1
      simp only at hb
      clear hcg hdg
      go_wp2
      go_roundw
      case rel => exact ⟨3, by omega, rfl, Ext.trans hE.out (by (repeat (first | exact Ext.refl _ | assumption | refine Ext.alloc ?_ _ | refine Ext.ext ?_ _ | refine Ext.drew ?_)))⟩
      case measure => simp [intOf]
    · go_wp2_with fail
      refine (awake_any _).mono ?_
      rintro x w1 ⟨rfl, d5, rfl⟩
      go_wp2
      go_ret
      refine ⟨rfl, Ext.trans hE0.out ?_⟩
      (repeat (first | exact Ext.refl _ | assumption | refine Ext.alloc ?_ _ | refine Ext.ext ?_ _ | refine Ext.drew ?_))
end Go.Proofs.Ytendgmnbnnkpnaa.G
