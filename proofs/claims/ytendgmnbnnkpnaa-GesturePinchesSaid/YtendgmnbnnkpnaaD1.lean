/- GesturePinches, walked (printed by m6.py). -/
import Derived.Test.YtendgmnbnnkpnaaD0
import Derived.WalkKit
import Derived.WalkSpells
import Derived.WalkLawsBesides
import Derived.Deep.QuietTactic
import Derived.BigQuiet
import Derived.BigRegion
import Derived.Lib.Hide
import Derived.Deep.RegionWith
set_option linter.unusedSimpArgs false
set_option linter.unusedVariables false
namespace Go.Proofs.Ytendgmnbnnkpnaa.G
open Go.RowKit
set_option maxRecDepth 100000 in
set_option maxHeartbeats 4000000 in
theorem pin_1 (a b s A D : Int) (ha1 : 0 ≤ a) (ha2 : a ≤ 255) (hb1 : 0 ≤ b) (hb2 : b ≤ 255) (hs1 : -128 ≤ s) (hs2 : s ≤ 127) (eA : mx a 1 = A) (eD : mx (b - s) (s - b) = D) (hA1 : 1 ≤ A) (hA2 : A ≤ 255) (hD1 : 0 ≤ D) (hD2 : D ≤ 1000)
    (B1 : decide (8 < mx (A - b) (b - A)) = true) (B2 : decide (mx (A - b) (b - A) ≤ 8) = false)
    (w : World) : Calls Try.prog 8 #[.int .u8 a, .int .u8 b, .int .i8 s] w fun e w' => e = .returned (.bool true) ∧ Ext w w' := by
  obtain ⟨q1, q2, q3, f1, f2, f3, hk, f5⟩ := pin_sure a b A ⟨ha1, ha2⟩ ⟨hb1, hb2⟩ eA B1
  replace f1 := Lib.hid f1
  replace f2 := Lib.hid f2
  replace f3 := Lib.hid f3
  replace f5 := Lib.hid f5
  go_enter Try.func8, Try.ntmps8
  go_wp2_with fail
  refine (New_ok 7 1 _ rfl rfl).mono ?_
  rintro x w1 ⟨rfl, d1, rfl⟩
  go_wp2_with fail
  (refine wp_region_segs (fun i => if i = 2 then some (FeedF q1, FeedS q1) else none) [([0, 1], .m, 2)] [3, 4] [5, 6] [7] (by kernel_rfl) (by kernel_rfl) (by simp only [List.map_cons, List.map_nil, List.filterMap_cons, List.filterMap_nil, List.getElem?_toArray, List.getElem?_cons_succ, List.getElem?_cons_zero]; try exact rfl) (by simp only [List.filterMap_cons, List.filterMap_nil, List.getElem?_toArray, List.getElem?_cons_succ, List.getElem?_cons_zero]; try exact rfl) (by simp only [List.filterMap_cons, List.filterMap_nil, List.getElem?_toArray, List.getElem?_cons_succ, List.getElem?_cons_zero]; try exact rfl) (by simp only [List.filterMap_cons, List.filterMap_nil, List.getElem?_toArray, List.getElem?_cons_succ, List.getElem?_cons_zero]; try exact rfl) (by decide) ?_)
  (refine sg_m ?_; (repeat (first | (refine ql_plain rfl rfl ?_; intro K hK; go_big_quiet_op; go_big_quiet_on) | (refine ql_nilCheck rfl rfl rfl ?_; intro K hK; simp only [Act.put, List.setIfInBounds_toArray, List.set_cons_succ, List.set_cons_zero]; go_big_quiet_on) | (refine ql_call (fun _ => event_any _ _ _ _ _) rfl rfl Try.func23 rfl (by kernel_rfl) rfl ?_; intro K hK; simp only [Act.put, List.setIfInBounds_toArray, List.set_cons_succ, List.set_cons_zero]; go_big_quiet_on) | (refine ql_skip rfl ?_; intro K hK; simp only [Act.put, List.setIfInBounds_toArray, List.set_cons_succ, List.set_cons_zero]; go_big_quiet_on))); refine ql_nil ?_)
  (refine sg_call (f := 20) (FeedF q1) (FeedS q1) rfl (FeedF.shp q1) (FeedF.stable q1) (fun d => f1.out _ _ _ (newR_rep _ _ _ _)) (by simp only [List.getElem?_toArray, List.getElem?_cons_succ, List.getElem?_cons_zero]; try exact rfl) rfl rfl Try.func20 rfl (by kernel_rfl) rfl ?_; intro u hu hS K hK; obtain ⟨a1, c1, va1, vn1, vc1, rfl⟩ := hS; simp only [Act.put, List.setIfInBounds_toArray, List.set_cons_succ, List.set_cons_zero]; refine hK _ ?_; clear hK K)
  (refine sg_last ?_; (repeat (first | (refine ql_plain rfl rfl ?_; intro K hK; go_big_quiet_op; go_big_quiet_on) | (refine ql_nilCheck rfl rfl rfl ?_; intro K hK; simp only [Act.put, List.setIfInBounds_toArray, List.set_cons_succ, List.set_cons_zero]; go_big_quiet_on) | fail | (refine ql_skip rfl ?_; intro K hK; simp only [Act.put, List.setIfInBounds_toArray, List.set_cons_succ, List.set_cons_zero]; go_big_quiet_on))); refine ql_nil ?_; (repeat (first | (refine pl_plain rfl rfl ?_; intro K hK; go_big_quiet_op; go_big_quiet_on) | (refine pl_nilCheck rfl rfl rfl ?_; intro K hK; simp only [Act.put, List.setIfInBounds_toArray, List.set_cons_succ, List.set_cons_zero]; go_big_quiet_on))); refine pl_nil ?_)
  rintro w1 he1 ⟨_, hf1⟩
  obtain ⟨d2, rfl⟩ := he1
  have hr1 := Lib.hid (FeedF.use hf1).1
  clear hf1
  go_wp2; refine only_normal ?_
  go_wp2_with fail
  refine (f2.out _ _ _ (hr1.out.turn (b := (w.ext d1).heap.size) (by (repeat (first | exact Like.refl _ _ | refine Like.ext ?_ _ | refine Like.alloc ?_ _ | refine Like.swap ?_ (by simp <;> omega) _ _))) (heap_some_ext (heap_alloc_new (w.ext d1) _) (by (repeat (first | exact Ext.refl _ | assumption | refine Ext.alloc ?_ _ | refine Ext.ext ?_ _ | refine Ext.drew ?_))))).rep).mono ?_
  rintro x w1 ⟨u, rfl, ⟨d3, rfl⟩, ⟨a2, c2, va2, vn2, vc2, rfl, hr2, _⟩, _⟩
  replace hr2 := Lib.hid hr2
  clear hr1
  go_wp2_with fail
  refine (f3.out _ _ _ (hr2.out.turn (b := (w.ext d1).heap.size) (by (repeat (first | exact Like.refl _ _ | refine Like.ext ?_ _ | refine Like.alloc ?_ _ | refine Like.swap ?_ (by simp <;> omega) _ _))) (heap_some_ext (heap_alloc_new (w.ext d1) _) (by (repeat (first | exact Ext.refl _ | assumption | refine Ext.alloc ?_ _ | refine Ext.ext ?_ _ | refine Ext.drew ?_))))).rep).mono ?_
  rintro x w1 ⟨u, rfl, ⟨d4, rfl⟩, ⟨a3, c3, va3, vn3, vc3, rfl, hr3, _⟩, _⟩
  replace hr3 := Lib.hid hr3
  clear hr2
  go_wp2_with fail
  refine (f5.out _ _ _ (hr3.out.turn (b := (w.ext d1).heap.size) (by (repeat (first | exact Like.refl _ _ | refine Like.ext ?_ _ | refine Like.alloc ?_ _ | refine Like.swap ?_ (by simp <;> omega) _ _))) (heap_some_ext (heap_alloc_new (w.ext d1) _) (by (repeat (first | exact Ext.refl _ | assumption | refine Ext.alloc ?_ _ | refine Ext.ext ?_ _ | refine Ext.drew ?_))))).rep).mono ?_
  rintro x W ⟨a5, c5, v, rfl, hx, _, hg⟩
  have hE : Hid (Ext w W) := Ext.trans (by (repeat (first | exact Ext.refl _ | assumption | refine Ext.alloc ?_ _ | refine Ext.ext ?_ _ | refine Ext.drew ?_))) hx
  clear hx hr3
  obtain ⟨b0, off, cg, rfl, hcg, hdg⟩ := repG_pair hg
  have g1 : W.cell? ⟨b0, off + 7, none⟩ = some (.int .i64 1000) := hcg 7 _ rfl
  have g2 : W.cell? ⟨b0, off + 10 + 7, none⟩ = some (.int .i64 (fl (1000 * b) A)) := hdg 7 _ rfl
  have g3 : W.cell? ⟨b0, off + 10 + 3, none⟩ = some (.int .i64 (fl b 2)) := hdg 3 _ rfl
  have hb := World.block_lt_of_cell? W _ g1
  simp only at hb
  clear hcg hdg hg
  clear eA eD B1 B2
  go_wp2_with fail
  (refine wp_region_ext (by kernel_rfl) (by kernel_rfl) ?_; (repeat (go_big_quiet_step ((first | (go_at_call 26; exact Calls.quiet_same (r_floor _ _ _ (by omega) (by omega) (by omega) (by omega))) | (go_at_call 16; exact Calls.quiet_ext (awake_any _)))))); refine wpQuiet_nil ?_; intro _ hwq; obtain ⟨dq, hwq⟩ := hwq; subst hwq)
  go_wp2
  go_ret
  refine ⟨rfl, Ext.trans hE.out ?_⟩
  (repeat (first | exact Ext.refl _ | assumption | refine Ext.alloc ?_ _ | refine Ext.ext ?_ _ | refine Ext.drew ?_))
end Go.Proofs.Ytendgmnbnnkpnaa.G
