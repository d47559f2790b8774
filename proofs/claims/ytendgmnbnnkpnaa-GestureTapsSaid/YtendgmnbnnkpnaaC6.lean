/- GestureTaps, walked (printed by m5.py). -/
import Derived.Test.YtendgmnbnnkpnaaC0
import Derived.WalkKit
import Derived.WalkSpells
import Derived.WalkLawsBesides
import Derived.Deep.QuietTactic
import Derived.BigQuiet
import Derived.BigRegion
import Derived.Lib.Hide
import Derived.Deep.RegionWith
set_option linter.unusedSimpArgs false
set_option linter.unusedVariables false
namespace Go.Proofs.Ytendgmnbnnkpnaa.G
open Go.RowKit
set_option maxRecDepth 100000 in
set_option maxHeartbeats 4000000 in
theorem taps_6 (x y m p s z X Y Z t1 t2 t3 : Int) (hx1 : -128 ≤ x) (hx2 : x ≤ 127) (hy1 : -128 ≤ y) (hy2 : y ≤ 127) (hm1 : 0 ≤ m) (hm2 : m ≤ 65535) (hp1 : 0 ≤ p) (hp2 : p ≤ 65535) (hs1 : 0 ≤ s) (hs2 : s ≤ 65535) (hz1 : -128 ≤ z) (hz2 : z ≤ 127)
    (eX : x.tdiv 8 = X) (eY : y.tdiv 8 = Y) (eZ : z.tdiv 8 = Z) (e1 : m % 400 = t1) (e2 : t1 + p % 400 = t2) (e3 : t2 + s % 400 = t3)
    (hX : -16 ≤ X ∧ X ≤ 16) (hY : -16 ≤ Y ∧ Y ≤ 16) (hZ : -16 ≤ Z ∧ Z ≤ 16)
    (B1 : decide (mx (mx (mx X (-X)) Y) (-Y) ≤ 8) = true) (B2 : decide (t1 ≤ 300) = true) (B3 : decide (t2 - t1 ≤ 300) = true) (B4 : decide (mx (Z - X) (X - Z) ≤ 8) = true) (B5 : decide (t3 - t2 ≤ 300) = true)
    (w : World) : Calls Try.prog 5 #[.int .i8 x, .int .i8 y, .int .u16 m, .int .u16 p, .int .u16 s, .int .i8 z] w fun e w' => e = .returned (.bool true) ∧ Ext w w' := by
  have P1 : 0 ≤ p % 400 ∧ p % 400 < 400 := by omega
  have P2 : 0 ≤ s % 400 ∧ s % 400 < 400 := by omega
  have P0 : 0 ≤ t1 ∧ t1 < 400 := by omega
  have P3 : t1 ≤ t2 ∧ t2 < 800 := by omega
  have P4 : t2 ≤ t3 ∧ t3 < 1200 := by omega
  have F1 := Lib.hid (taps_one X Y t1 hX hY P0 _ _ B1 B2)
  have F2 := Lib.hid (taps_two X Y Z t1 t2 t3 hX hY hZ P0 P3 P4 _ _ _ _ _ B1 B2 B3 B4 B5)
  obtain ⟨P11, P12⟩ := P1
  obtain ⟨P21, P22⟩ := P2
  obtain ⟨P01, P02⟩ := P0
  obtain ⟨P31, P32⟩ := P3
  obtain ⟨P41, P42⟩ := P4
  obtain ⟨hX1, hX2⟩ := hX
  obtain ⟨hY1, hY2⟩ := hY
  obtain ⟨hZ1, hZ2⟩ := hZ
  have P5 : t2 < 1200 := by omega
  have P6 : 0 ≤ t2 := by omega
  have P7 : 0 ≤ t3 := by omega
  go_enter Try.func5, Try.ntmps5
  go_wp2
  try rw [e1]
  clear eX eY eZ e1 e2 e3 B1 B2 B3 B4 B5
  go_loopw [21] (fun i wr => ∃ k : Nat, k ≤ 2 ∧ i = .int .i64 k ∧ Ext w wr) (fun i _ => 2 - (intOf i).toNat)
  case atStart => exact ⟨0, by omega, rfl, by (repeat (first | exact Ext.refl _ | assumption | refine Ext.alloc ?_ _ | refine Ext.ext ?_ _ | refine Ext.drew ?_))⟩
  case round =>
    obtain ⟨k, hk, rfl, d0, rfl⟩ := hrel
    obtain rfl | rfl | rfl : k = 0 ∨ k = 1 ∨ k = 2 := by omega
    · obtain ⟨q1, q2, f1, f2, st, ha⟩ := F1.out
      replace f1 := Lib.hid f1
      replace f2 := Lib.hid f2
      clear F1 F2
      change q2.1.State = 2 at st
      change q2.2.1 = 0 at ha
      go_wp2_with fail
      refine (New_ok 1 1 _ rfl rfl).mono ?_
      rintro x w1 ⟨rfl, d1, rfl⟩
      go_wp2_with fail
      (refine wp_region_segs (fun i => if i = 2 then some (FeedF q1, FeedS q1) else none) [([0, 1], .m, 2)] [3, 4] [5, 6] [7] (by kernel_rfl) (by kernel_rfl) (by simp only [List.map_cons, List.map_nil, List.filterMap_cons, List.filterMap_nil, List.getElem?_toArray, List.getElem?_cons_succ, List.getElem?_cons_zero]; try exact rfl) (by simp only [List.filterMap_cons, List.filterMap_nil, List.getElem?_toArray, List.getElem?_cons_succ, List.getElem?_cons_zero]; try exact rfl) (by simp only [List.filterMap_cons, List.filterMap_nil, List.getElem?_toArray, List.getElem?_cons_succ, List.getElem?_cons_zero]; try exact rfl) (by simp only [List.filterMap_cons, List.filterMap_nil, List.getElem?_toArray, List.getElem?_cons_succ, List.getElem?_cons_zero]; try exact rfl) (by decide) ?_)
      (refine sg_m ?_; (repeat (first | (refine ql_plain rfl rfl ?_; intro K hK; go_big_quiet_op; go_big_quiet_on) | (refine ql_nilCheck rfl rfl rfl ?_; intro K hK; simp only [Act.put, List.setIfInBounds_toArray, List.set_cons_succ, List.set_cons_zero]; go_big_quiet_on) | (refine ql_call (fun _ => event_any _ _ _ _ _) rfl rfl Try.func23 rfl (by kernel_rfl) rfl ?_; intro K hK; simp only [Act.put, List.setIfInBounds_toArray, List.set_cons_succ, List.set_cons_zero]; go_big_quiet_on) | (refine ql_skip rfl ?_; intro K hK; simp only [Act.put, List.setIfInBounds_toArray, List.set_cons_succ, List.set_cons_zero]; go_big_quiet_on))); refine ql_nil ?_)
      (refine sg_call (f := 20) (FeedF q1) (FeedS q1) rfl (FeedF.shp q1) (FeedF.stable q1) (fun d => f1.out _ _ _ (newR_rep _ _ _ _)) (by simp only [List.getElem?_toArray, List.getElem?_cons_succ, List.getElem?_cons_zero]; try exact rfl) rfl rfl Try.func20 rfl (by kernel_rfl) rfl ?_; intro u hu hS K hK; obtain ⟨a1, c1, va1, vn1, vc1, rfl⟩ := hS; simp only [Act.put, List.setIfInBounds_toArray, List.set_cons_succ, List.set_cons_zero]; refine hK _ ?_; clear hK K)
      (refine sg_last ?_; (repeat (first | (refine ql_plain rfl rfl ?_; intro K hK; go_big_quiet_op; go_big_quiet_on) | (refine ql_nilCheck rfl rfl rfl ?_; intro K hK; simp only [Act.put, List.setIfInBounds_toArray, List.set_cons_succ, List.set_cons_zero]; go_big_quiet_on) | fail | (refine ql_skip rfl ?_; intro K hK; simp only [Act.put, List.setIfInBounds_toArray, List.set_cons_succ, List.set_cons_zero]; go_big_quiet_on))); refine ql_nil ?_; (repeat (first | (refine pl_plain rfl rfl ?_; intro K hK; go_big_quiet_op; go_big_quiet_on) | (refine pl_nilCheck rfl rfl rfl ?_; intro K hK; simp only [Act.put, List.setIfInBounds_toArray, List.set_cons_succ, List.set_cons_zero]; go_big_quiet_on))); refine pl_nil ?_)
      rintro w1 he1 ⟨_, hf1⟩
      obtain ⟨d2, rfl⟩ := he1
      have hr1 := Lib.hid (FeedF.use hf1).1
      clear hf1
      go_wp2; refine only_normal ?_
      go_wp2_with fail
      (refine wp_region_segs (fun i => if i = 5 then some (FeedF q2, FeedS q2) else none) [([0, 1, 2, 3, 4], .m, 5)] [6, 7] [8, 9] [10, 11, 12] (by kernel_rfl) (by kernel_rfl) (by simp only [List.map_cons, List.map_nil, List.filterMap_cons, List.filterMap_nil, List.getElem?_toArray, List.getElem?_cons_succ, List.getElem?_cons_zero]; try exact rfl) (by simp only [List.filterMap_cons, List.filterMap_nil, List.getElem?_toArray, List.getElem?_cons_succ, List.getElem?_cons_zero]; try exact rfl) (by simp only [List.filterMap_cons, List.filterMap_nil, List.getElem?_toArray, List.getElem?_cons_succ, List.getElem?_cons_zero]; try exact rfl) (by simp only [List.filterMap_cons, List.filterMap_nil, List.getElem?_toArray, List.getElem?_cons_succ, List.getElem?_cons_zero]; try exact rfl) (by decide) ?_)
      (refine sg_m ?_; (repeat (first | (refine ql_plain rfl rfl ?_; intro K hK; go_big_quiet_op; go_big_quiet_on) | (refine ql_nilCheck rfl rfl rfl ?_; intro K hK; simp only [Act.put, List.setIfInBounds_toArray, List.set_cons_succ, List.set_cons_zero]; go_big_quiet_on) | (refine ql_call (fun _ => event_any _ _ _ _ _) rfl rfl Try.func23 rfl (by kernel_rfl) rfl ?_; intro K hK; simp only [Act.put, List.setIfInBounds_toArray, List.set_cons_succ, List.set_cons_zero]; go_big_quiet_on) | (refine ql_skip rfl ?_; intro K hK; simp only [Act.put, List.setIfInBounds_toArray, List.set_cons_succ, List.set_cons_zero]; go_big_quiet_on))); refine ql_nil ?_)
      (refine sg_call (f := 20) (FeedF q2) (FeedS q2) rfl (FeedF.shp q2) (FeedF.stable q2) (fun d => f2.out _ _ _ ((hr1.out.turn (b := (((w.ext d0).alloc (.cells #[.int .i64 1, .int .i64 2] 3)).ext d1).heap.size) (by (repeat (first | exact Like.refl _ _ | refine Like.ext ?_ _ | refine Like.alloc ?_ _ | refine Like.swap ?_ (by simp <;> omega) _ _))) (heap_some_ext (heap_alloc_new (((w.ext d0).alloc (.cells #[.int .i64 1, .int .i64 2] 3)).ext d1) _) (by (repeat (first | exact Ext.refl _ | assumption | refine Ext.alloc ?_ _ | refine Ext.ext ?_ _ | refine Ext.drew ?_))))).ext (Ext.ext (Ext.refl _) d)).rep) (by simp only [List.getElem?_toArray, List.getElem?_cons_succ, List.getElem?_cons_zero]; try exact rfl) rfl rfl Try.func20 rfl (by kernel_rfl) rfl ?_; intro u hu hS K hK; obtain ⟨a2, c2, va2, vn2, vc2, rfl⟩ := hS; simp only [Act.put, List.setIfInBounds_toArray, List.set_cons_succ, List.set_cons_zero]; refine hK _ ?_; clear hK K)
      (refine sg_last ?_; (repeat (first | (refine ql_plain rfl rfl ?_; intro K hK; go_big_quiet_op; go_big_quiet_on) | (refine ql_nilCheck rfl rfl rfl ?_; intro K hK; simp only [Act.put, List.setIfInBounds_toArray, List.set_cons_succ, List.set_cons_zero]; go_big_quiet_on) | fail | (refine ql_skip rfl ?_; intro K hK; simp only [Act.put, List.setIfInBounds_toArray, List.set_cons_succ, List.set_cons_zero]; go_big_quiet_on))); refine ql_nil ?_; (repeat (first | (refine pl_plain rfl rfl ?_; intro K hK; go_big_quiet_op; go_big_quiet_on) | (refine pl_nilCheck rfl rfl rfl ?_; intro K hK; simp only [Act.put, List.setIfInBounds_toArray, List.set_cons_succ, List.set_cons_zero]; go_big_quiet_on))); refine pl_nil ?_)
      rintro w1 he1 ⟨_, hf2⟩
      obtain ⟨d3, rfl⟩ := he1
      have hr2 := Lib.hid (FeedF.use hf2).1
      clear hf2 hr1
      go_wp2; refine only_normal ?_
      go_wp2
      go_roundw
      case rel => exact ⟨1, by omega, rfl, by (repeat (first | exact Ext.refl _ | assumption | refine Ext.alloc ?_ _ | refine Ext.ext ?_ _ | refine Ext.drew ?_))⟩
      case measure => simp [intOf]
    · obtain ⟨q1, q2, q3, q4, f1, f2, f3, f4, f5, ha, hb, hc⟩ := F2.out
      replace f1 := Lib.hid f1
      replace f2 := Lib.hid f2
      replace f3 := Lib.hid f3
      replace f4 := Lib.hid f4
      replace f5 := Lib.hid f5
      clear F1 F2
      change q2.2.1 = 3 at ha
      change q3.2.1 = 0 at hb
      change q4.2.1 = 1 at hc
      change Hid (WinC q4.1 [⟨2, 1, 1, Z, Y, 0, 0, 1000, 0, 0⟩]) at f5
      go_wp2_with fail
      refine (New_ok 2 1 _ rfl rfl).mono ?_
      rintro x w1 ⟨rfl, d1, rfl⟩
      go_wp2_with fail
      (refine wp_region_segs (fun i => if i = 2 then some (FeedF q1, FeedS q1) else none) [([0, 1], .m, 2)] [3, 4] [5, 6] [7] (by kernel_rfl) (by kernel_rfl) (by simp only [List.map_cons, List.map_nil, List.filterMap_cons, List.filterMap_nil, List.getElem?_toArray, List.getElem?_cons_succ, List.getElem?_cons_zero]; try exact rfl) (by simp only [List.filterMap_cons, List.filterMap_nil, List.getElem?_toArray, List.getElem?_cons_succ, List.getElem?_cons_zero]; try exact rfl) (by simp only [List.filterMap_cons, List.filterMap_nil, List.getElem?_toArray, List.getElem?_cons_succ, List.getElem?_cons_zero]; try exact rfl) (by simp only [List.filterMap_cons, List.filterMap_nil, List.getElem?_toArray, List.getElem?_cons_succ, List.getElem?_cons_zero]; try exact rfl) (by decide) ?_)
      (refine sg_m ?_; (repeat (first | (refine ql_plain rfl rfl ?_; intro K hK; go_big_quiet_op; go_big_quiet_on) | (refine ql_nilCheck rfl rfl rfl ?_; intro K hK; simp only [Act.put, List.setIfInBounds_toArray, List.set_cons_succ, List.set_cons_zero]; go_big_quiet_on) | (refine ql_call (fun _ => event_any _ _ _ _ _) rfl rfl Try.func23 rfl (by kernel_rfl) rfl ?_; intro K hK; simp only [Act.put, List.setIfInBounds_toArray, List.set_cons_succ, List.set_cons_zero]; go_big_quiet_on) | (refine ql_skip rfl ?_; intro K hK; simp only [Act.put, List.setIfInBounds_toArray, List.set_cons_succ, List.set_cons_zero]; go_big_quiet_on))); refine ql_nil ?_)
      (refine sg_call (f := 20) (FeedF q1) (FeedS q1) rfl (FeedF.shp q1) (FeedF.stable q1) (fun d => f1.out _ _ _ (newR_rep _ _ _ _)) (by simp only [List.getElem?_toArray, List.getElem?_cons_succ, List.getElem?_cons_zero]; try exact rfl) rfl rfl Try.func20 rfl (by kernel_rfl) rfl ?_; intro u hu hS K hK; obtain ⟨a1, c1, va1, vn1, vc1, rfl⟩ := hS; simp only [Act.put, List.setIfInBounds_toArray, List.set_cons_succ, List.set_cons_zero]; refine hK _ ?_; clear hK K)
      (refine sg_last ?_; (repeat (first | (refine ql_plain rfl rfl ?_; intro K hK; go_big_quiet_op; go_big_quiet_on) | (refine ql_nilCheck rfl rfl rfl ?_; intro K hK; simp only [Act.put, List.setIfInBounds_toArray, List.set_cons_succ, List.set_cons_zero]; go_big_quiet_on) | fail | (refine ql_skip rfl ?_; intro K hK; simp only [Act.put, List.setIfInBounds_toArray, List.set_cons_succ, List.set_cons_zero]; go_big_quiet_on))); refine ql_nil ?_; (repeat (first | (refine pl_plain rfl rfl ?_; intro K hK; go_big_quiet_op; go_big_quiet_on) | (refine pl_nilCheck rfl rfl rfl ?_; intro K hK; simp only [Act.put, List.setIfInBounds_toArray, List.set_cons_succ, List.set_cons_zero]; go_big_quiet_on))); refine pl_nil ?_)
      rintro w1 he1 ⟨_, hf1⟩
      obtain ⟨d2, rfl⟩ := he1
      have hr1 := Lib.hid (FeedF.use hf1).1
      clear hf1
      go_wp2; refine only_normal ?_
      go_wp2_with fail
      (refine wp_region_segs (fun i => if i = 5 then some (FeedF q2, FeedS q2) else none) [([0, 1, 2, 3, 4], .m, 5)] [6, 7] [8, 9] [10, 11, 12] (by kernel_rfl) (by kernel_rfl) (by simp only [List.map_cons, List.map_nil, List.filterMap_cons, List.filterMap_nil, List.getElem?_toArray, List.getElem?_cons_succ, List.getElem?_cons_zero]; try exact rfl) (by simp only [List.filterMap_cons, List.filterMap_nil, List.getElem?_toArray, List.getElem?_cons_succ, List.getElem?_cons_zero]; try exact rfl) (by simp only [List.filterMap_cons, List.filterMap_nil, List.getElem?_toArray, List.getElem?_cons_succ, List.getElem?_cons_zero]; try exact rfl) (by simp only [List.filterMap_cons, List.filterMap_nil, List.getElem?_toArray, List.getElem?_cons_succ, List.getElem?_cons_zero]; try exact rfl) (by decide) ?_)
      (refine sg_m ?_; (repeat (first | (refine ql_plain rfl rfl ?_; intro K hK; go_big_quiet_op; go_big_quiet_on) | (refine ql_nilCheck rfl rfl rfl ?_; intro K hK; simp only [Act.put, List.setIfInBounds_toArray, List.set_cons_succ, List.set_cons_zero]; go_big_quiet_on) | (refine ql_call (fun _ => event_any _ _ _ _ _) rfl rfl Try.func23 rfl (by kernel_rfl) rfl ?_; intro K hK; simp only [Act.put, List.setIfInBounds_toArray, List.set_cons_succ, List.set_cons_zero]; go_big_quiet_on) | (refine ql_skip rfl ?_; intro K hK; simp only [Act.put, List.setIfInBounds_toArray, List.set_cons_succ, List.set_cons_zero]; go_big_quiet_on))); refine ql_nil ?_)
      (refine sg_call (f := 20) (FeedF q2) (FeedS q2) rfl (FeedF.shp q2) (FeedF.stable q2) (fun d => f2.out _ _ _ ((hr1.out.turn (b := (((w.ext d0).alloc (.cells #[.int .i64 1, .int .i64 2] 3)).ext d1).heap.size) (by (repeat (first | exact Like.refl _ _ | refine Like.ext ?_ _ | refine Like.alloc ?_ _ | refine Like.swap ?_ (by simp <;> omega) _ _))) (heap_some_ext (heap_alloc_new (((w.ext d0).alloc (.cells #[.int .i64 1, .int .i64 2] 3)).ext d1) _) (by (repeat (first | exact Ext.refl _ | assumption | refine Ext.alloc ?_ _ | refine Ext.ext ?_ _ | refine Ext.drew ?_))))).ext (Ext.ext (Ext.refl _) d)).rep) (by simp only [List.getElem?_toArray, List.getElem?_cons_succ, List.getElem?_cons_zero]; try exact rfl) rfl rfl Try.func20 rfl (by kernel_rfl) rfl ?_; intro u hu hS K hK; obtain ⟨a2, c2, va2, vn2, vc2, rfl⟩ := hS; simp only [Act.put, List.setIfInBounds_toArray, List.set_cons_succ, List.set_cons_zero]; refine hK _ ?_; clear hK K)
      (refine sg_last ?_; (repeat (first | (refine ql_plain rfl rfl ?_; intro K hK; go_big_quiet_op; go_big_quiet_on) | (refine ql_nilCheck rfl rfl rfl ?_; intro K hK; simp only [Act.put, List.setIfInBounds_toArray, List.set_cons_succ, List.set_cons_zero]; go_big_quiet_on) | fail | (refine ql_skip rfl ?_; intro K hK; simp only [Act.put, List.setIfInBounds_toArray, List.set_cons_succ, List.set_cons_zero]; go_big_quiet_on))); refine ql_nil ?_; (repeat (first | (refine pl_plain rfl rfl ?_; intro K hK; go_big_quiet_op; go_big_quiet_on) | (refine pl_nilCheck rfl rfl rfl ?_; intro K hK; simp only [Act.put, List.setIfInBounds_toArray, List.set_cons_succ, List.set_cons_zero]; go_big_quiet_on))); refine pl_nil ?_)
      rintro w1 he1 ⟨_, hf2⟩
      obtain ⟨d3, rfl⟩ := he1
      have hr2 := Lib.hid (FeedF.use hf2).1
      clear hf2 hr1
      go_wp2; refine only_normal ?_
      go_wp2_with fail
      (refine wp_region_segs (fun i => if i = 5 then some (FeedF q3, FeedS q3) else none) [([0, 1, 2, 3, 4], .m, 5)] [6, 7] [8, 9] [10, 11, 12] (by kernel_rfl) (by kernel_rfl) (by simp only [List.map_cons, List.map_nil, List.filterMap_cons, List.filterMap_nil, List.getElem?_toArray, List.getElem?_cons_succ, List.getElem?_cons_zero]; try exact rfl) (by simp only [List.filterMap_cons, List.filterMap_nil, List.getElem?_toArray, List.getElem?_cons_succ, List.getElem?_cons_zero]; try exact rfl) (by simp only [List.filterMap_cons, List.filterMap_nil, List.getElem?_toArray, List.getElem?_cons_succ, List.getElem?_cons_zero]; try exact rfl) (by simp only [List.filterMap_cons, List.filterMap_nil, List.getElem?_toArray, List.getElem?_cons_succ, List.getElem?_cons_zero]; try exact rfl) (by decide) ?_)
      (refine sg_m ?_; (repeat (first | (refine ql_plain rfl rfl ?_; intro K hK; go_big_quiet_op; go_big_quiet_on) | (refine ql_nilCheck rfl rfl rfl ?_; intro K hK; simp only [Act.put, List.setIfInBounds_toArray, List.set_cons_succ, List.set_cons_zero]; go_big_quiet_on) | (refine ql_call (fun _ => event_any _ _ _ _ _) rfl rfl Try.func23 rfl (by kernel_rfl) rfl ?_; intro K hK; simp only [Act.put, List.setIfInBounds_toArray, List.set_cons_succ, List.set_cons_zero]; go_big_quiet_on) | (refine ql_skip rfl ?_; intro K hK; simp only [Act.put, List.setIfInBounds_toArray, List.set_cons_succ, List.set_cons_zero]; go_big_quiet_on))); refine ql_nil ?_)
      (refine sg_call (f := 20) (FeedF q3) (FeedS q3) rfl (FeedF.shp q3) (FeedF.stable q3) (fun d => f3.out _ _ _ ((hr2.out.turn (b := (((w.ext d0).alloc (.cells #[.int .i64 1, .int .i64 2] 3)).ext d1).heap.size) (by (repeat (first | exact Like.refl _ _ | refine Like.ext ?_ _ | refine Like.alloc ?_ _ | refine Like.swap ?_ (by simp <;> omega) _ _))) (heap_some_ext (heap_alloc_new (((w.ext d0).alloc (.cells #[.int .i64 1, .int .i64 2] 3)).ext d1) _) (by (repeat (first | exact Ext.refl _ | assumption | refine Ext.alloc ?_ _ | refine Ext.ext ?_ _ | refine Ext.drew ?_))))).ext (Ext.ext (Ext.refl _) d)).rep) (by simp only [List.getElem?_toArray, List.getElem?_cons_succ, List.getElem?_cons_zero]; try exact rfl) rfl rfl Try.func20 rfl (by kernel_rfl) rfl ?_; intro u hu hS K hK; obtain ⟨a3, c3, va3, vn3, vc3, rfl⟩ := hS; simp only [Act.put, List.setIfInBounds_toArray, List.set_cons_succ, List.set_cons_zero]; refine hK _ ?_; clear hK K)
      (refine sg_last ?_; (repeat (first | (refine ql_plain rfl rfl ?_; intro K hK; go_big_quiet_op; go_big_quiet_on) | (refine ql_nilCheck rfl rfl rfl ?_; intro K hK; simp only [Act.put, List.setIfInBounds_toArray, List.set_cons_succ, List.set_cons_zero]; go_big_quiet_on) | fail | (refine ql_skip rfl ?_; intro K hK; simp only [Act.put, List.setIfInBounds_toArray, List.set_cons_succ, List.set_cons_zero]; go_big_quiet_on))); refine ql_nil ?_; (repeat (first | (refine pl_plain rfl rfl ?_; intro K hK; go_big_quiet_op; go_big_quiet_on) | (refine pl_nilCheck rfl rfl rfl ?_; intro K hK; simp only [Act.put, List.setIfInBounds_toArray, List.set_cons_succ, List.set_cons_zero]; go_big_quiet_on))); refine pl_nil ?_)
      rintro w1 he1 ⟨_, hf3⟩
      obtain ⟨d4, rfl⟩ := he1
      have hr3 := Lib.hid (FeedF.use hf3).1
      clear hf3 hr2
      go_wp2; refine only_normal ?_
      go_wp2_with fail
      (refine wp_region_segs (fun i => if i = 5 then some (FeedF q4, FeedS q4) else none) [([0, 1, 2, 3, 4], .m, 5)] [6, 7] [8, 9] [10, 11, 12] (by kernel_rfl) (by kernel_rfl) (by simp only [List.map_cons, List.map_nil, List.filterMap_cons, List.filterMap_nil, List.getElem?_toArray, List.getElem?_cons_succ, List.getElem?_cons_zero]; try exact rfl) (by simp only [List.filterMap_cons, List.filterMap_nil, List.getElem?_toArray, List.getElem?_cons_succ, List.getElem?_cons_zero]; try exact rfl) (by simp only [List.filterMap_cons, List.filterMap_nil, List.getElem?_toArray, List.getElem?_cons_succ, List.getElem?_cons_zero]; try exact rfl) (by simp only [List.filterMap_cons, List.filterMap_nil, List.getElem?_toArray, List.getElem?_cons_succ, List.getElem?_cons_zero]; try exact rfl) (by decide) ?_)
      (refine sg_m ?_; (repeat (first | (refine ql_plain rfl rfl ?_; intro K hK; go_big_quiet_op; go_big_quiet_on) | (refine ql_nilCheck rfl rfl rfl ?_; intro K hK; simp only [Act.put, List.setIfInBounds_toArray, List.set_cons_succ, List.set_cons_zero]; go_big_quiet_on) | (refine ql_call (fun _ => event_any _ _ _ _ _) rfl rfl Try.func23 rfl (by kernel_rfl) rfl ?_; intro K hK; simp only [Act.put, List.setIfInBounds_toArray, List.set_cons_succ, List.set_cons_zero]; go_big_quiet_on) | (refine ql_skip rfl ?_; intro K hK; simp only [Act.put, List.setIfInBounds_toArray, List.set_cons_succ, List.set_cons_zero]; go_big_quiet_on))); refine ql_nil ?_)
      (refine sg_call (f := 20) (FeedF q4) (FeedS q4) rfl (FeedF.shp q4) (FeedF.stable q4) (fun d => f4.out _ _ _ ((hr3.out.turn (b := (((w.ext d0).alloc (.cells #[.int .i64 1, .int .i64 2] 3)).ext d1).heap.size) (by (repeat (first | exact Like.refl _ _ | refine Like.ext ?_ _ | refine Like.alloc ?_ _ | refine Like.swap ?_ (by simp <;> omega) _ _))) (heap_some_ext (heap_alloc_new (((w.ext d0).alloc (.cells #[.int .i64 1, .int .i64 2] 3)).ext d1) _) (by (repeat (first | exact Ext.refl _ | assumption | refine Ext.alloc ?_ _ | refine Ext.ext ?_ _ | refine Ext.drew ?_))))).ext (Ext.ext (Ext.refl _) d)).rep) (by simp only [List.getElem?_toArray, List.getElem?_cons_succ, List.getElem?_cons_zero]; try exact rfl) rfl rfl Try.func20 rfl (by kernel_rfl) rfl ?_; intro u hu hS K hK; obtain ⟨a4, c4, va4, vn4, vc4, rfl⟩ := hS; simp only [Act.put, List.setIfInBounds_toArray, List.set_cons_succ, List.set_cons_zero]; refine hK _ ?_; clear hK K)
      (refine sg_last ?_; (repeat (first | (refine ql_plain rfl rfl ?_; intro K hK; go_big_quiet_op; go_big_quiet_on) | (refine ql_nilCheck rfl rfl rfl ?_; intro K hK; simp only [Act.put, List.setIfInBounds_toArray, List.set_cons_succ, List.set_cons_zero]; go_big_quiet_on) | fail | (refine ql_skip rfl ?_; intro K hK; simp only [Act.put, List.setIfInBounds_toArray, List.set_cons_succ, List.set_cons_zero]; go_big_quiet_on))); refine ql_nil ?_; (repeat (first | (refine pl_plain rfl rfl ?_; intro K hK; go_big_quiet_op; go_big_quiet_on) | (refine pl_nilCheck rfl rfl rfl ?_; intro K hK; simp only [Act.put, List.setIfInBounds_toArray, List.set_cons_succ, List.set_cons_zero]; go_big_quiet_on))); refine pl_nil ?_)
      rintro w1 he1 ⟨_, hf4⟩
      obtain ⟨d5, rfl⟩ := he1
      have hr4 := Lib.hid (FeedF.use hf4).1
      clear hf4 hr3
      go_wp2; refine only_normal ?_
      go_wp2_with fail
      refine (f5.out _ _ _ (hr4.out.turn (b := (((w.ext d0).alloc (.cells #[.int .i64 1, .int .i64 2] 3)).ext d1).heap.size) (by (repeat (first | exact Like.refl _ _ | refine Like.ext ?_ _ | refine Like.alloc ?_ _ | refine Like.swap ?_ (by simp <;> omega) _ _))) (heap_some_ext (heap_alloc_new (((w.ext d0).alloc (.cells #[.int .i64 1, .int .i64 2] 3)).ext d1) _) (by (repeat (first | exact Ext.refl _ | assumption | refine Ext.alloc ?_ _ | refine Ext.ext ?_ _ | refine Ext.drew ?_))))).rep).mono ?_
      rintro x W ⟨a5, c5, v, rfl, hx, _, hg⟩
      have hE : Hid (Ext w W) := Ext.trans (by (repeat (first | exact Ext.refl _ | assumption | refine Ext.alloc ?_ _ | refine Ext.ext ?_ _ | refine Ext.drew ?_))) hx
      clear hx hr4
      obtain ⟨b, off, cg, rfl, hcg⟩ := hg.one
      have g4 : W.cell? ⟨b, off + 3, none⟩ = some (.int .i64 Z) := hcg 3 _ rfl
      have g5 : W.cell? ⟨b, off + 4, none⟩ = some (.int .i64 Y) := hcg 4 _ rfl
      have hb := World.block_lt_of_cell? W _ g4
      simp only at hb
      clear hcg
      go_wp2
      go_roundw
      case rel => exact ⟨2, by omega, rfl, Ext.trans hE.out (by (repeat (first | exact Ext.refl _ | assumption | refine Ext.alloc ?_ _ | refine Ext.ext ?_ _ | refine Ext.drew ?_)))⟩
      case measure => simp [intOf]
    · go_wp2_with fail
      refine (awake_any _).mono ?_
      rintro x w1 ⟨rfl, d5, rfl⟩
      go_wp2
      go_ret
      refine ⟨rfl, ?_⟩
      (repeat (first | exact Ext.refl _ | assumption | refine Ext.alloc ?_ _ | refine Ext.ext ?_ _ | refine Ext.drew ?_))
end Go.Proofs.Ytendgmnbnnkpnaa.G
