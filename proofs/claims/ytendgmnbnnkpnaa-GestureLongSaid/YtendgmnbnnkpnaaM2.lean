/- GestureLong, walked. -/
import Derived.Test.YtendgmnbnnkpnaaL1
import Derived.Test.YtendgmnbnnkpnaaP2
import Derived.WalkKit
import Derived.WalkSpells
import Derived.WalkLawsBesides
import Derived.Deep.QuietTactic
import Derived.BigQuiet
import Derived.BigRegion
import Derived.Lib.Hide
import Derived.Deep.RegionWith
set_option linter.unusedSimpArgs false
set_option linter.unusedVariables false
namespace Go.Proofs.Ytendgmnbnnkpnaa.G
open Go.RowKit
theorem tdiv4_bd (x : Int) (h : -128 ≤ x ∧ x ≤ 127) : -32 ≤ x.tdiv 4 ∧ x.tdiv 4 ≤ 32 := by
  have h2 : Int.sign 4 = 1 := rfl
  rw [Int.tdiv_eq_ediv, h2]
  split <;> omega
set_option maxRecDepth 100000 in
set_option maxHeartbeats 2000000 in
theorem long_walk (x y m u t1 t2 : Int) (q1 q2 q3 : Rec × Int × List Ges) (gs : List Ges) (av bv : Int) (nr : Bool)
    (hx : -128 ≤ x ∧ x ≤ 127) (hy : -128 ≤ y ∧ y ≤ 127) (hm : 0 ≤ m ∧ m ≤ 65535) (hu : 0 ≤ u ∧ u ≤ 65535) (ht1 : t1 = m % 600) (ht2 : t2 = t1 + u % 600)
    (h1 : q1 = feed (newR 3 1) ⟨1, 1, 0, 0, 0, 0⟩) (h2 : q2 = feed q1.1 ⟨2, 1, x.tdiv 4, y.tdiv 4, t1, 0⟩) (h3 : q3 = feed q2.1 ⟨5, 1, 0, 0, t2, 0⟩)
    (ha : q2.2.1 = av) (hb : q3.2.1 = bv) (hg : (win q3.1).2 = gs) (hn : nr = decide (mx (mx (mx (x.tdiv 4) (-(x.tdiv 4))) (y.tdiv 4)) (-(y.tdiv 4)) ≤ 8))
    (hc : (500 ≤ t1 ∧ av = 1 ∧ bv = 0 ∧ gs = [⟨3, 1, 1, 0, 0, 0, 0, 1000, 0, 0⟩]) ∨ (t1 < 500 ∧ nr = false ∧ av = 2 ∧ bv = 0 ∧ gs = []) ∨ (t1 < 500 ∧ nr = true ∧ 500 ≤ t2 ∧ av = 0 ∧ bv = 1 ∧ gs = [⟨3, 1, 1, 0, 0, 0, 0, 1000, 0, 0⟩]) ∨ (t1 < 500 ∧ nr = true ∧ t2 < 500 ∧ av = 0 ∧ bv = 0 ∧ gs = []))
    (w : World) : Calls Try.prog 9 #[.int .i8 x, .int .i8 y, .int .u16 m, .int .u16 u] w fun e w' => e = .returned (.bool true) ∧ Ext w w' := by
  have s0 : Sound (newR 3 1) := newR_sound rfl rfl
  have s1 := s0.feed ⟨1, 1, 0, 0, 0, 0⟩
  rw [← h1] at s1
  have s2 := s1.feed ⟨2, 1, x.tdiv 4, y.tdiv 4, t1, 0⟩
  rw [← h2] at s2
  have s3 := s2.feed ⟨5, 1, 0, 0, t2, 0⟩
  rw [← h3] at s3
  have f1 := Lib.hid fun w a c h => feed_mk (newR 3 1) ⟨1, 1, 0, 0, 0, 0⟩ s0.ok a c w h
  have f2 := Lib.hid fun w a c h => feed_mk q1.1 ⟨2, 1, x.tdiv 4, y.tdiv 4, t1, 0⟩ s1.ok a c w h
  have f3 := Lib.hid fun w a c h => feed_mk q2.1 ⟨5, 1, 0, 0, t2, 0⟩ s2.ok a c w h
  have f4 := Lib.hid fun w a c h => win_x q3.1 s3.ok a c w h
  rw [← h1] at f1
  rw [← h2] at f2
  rw [← h3] at f3
  rw [hg] at f4
  have bt1 : 0 ≤ m % 600 ∧ m % 600 < 600 := ⟨by omega, by omega⟩
  have bt2 : 0 ≤ u % 600 ∧ u % 600 < 600 := ⟨by omega, by omega⟩
  subst ht1 ht2
  clear h1 h2 h3 hg s0 s1 s2 s3
  obtain ⟨hx1, hx2⟩ := hx
  obtain ⟨hy1, hy2⟩ := hy
  obtain ⟨hm1, hm2⟩ := hm
  obtain ⟨hu1, hu2⟩ := hu
  obtain ⟨p1, p2⟩ := bt1
  obtain ⟨p3, p4⟩ := bt2
  have hn2 := hn.symm
  clear hn
  obtain ⟨bX1, bX2⟩ := tdiv4_bd x ⟨hx1, hx2⟩
  obtain ⟨bY1, bY2⟩ := tdiv4_bd y ⟨hy1, hy2⟩
  have hc2 : ∃ c1 c2 : Bool, decide (500 ≤ m % 600) = c1 ∧ decide (m % 600 < 500) = !c1 ∧ decide (500 ≤ m % 600 + u % 600) = c2 ∧ ((c1 = true ∧ av = 1 ∧ bv = 0 ∧ gs = [⟨3, 1, 1, 0, 0, 0, 0, 1000, 0, 0⟩]) ∨ (c1 = false ∧ nr = false ∧ av = 2 ∧ bv = 0 ∧ gs = []) ∨ (c1 = false ∧ nr = true ∧ c2 = true ∧ av = 0 ∧ bv = 1 ∧ gs = [⟨3, 1, 1, 0, 0, 0, 0, 1000, 0, 0⟩]) ∨ (c1 = false ∧ nr = true ∧ c2 = false ∧ av = 0 ∧ bv = 0 ∧ gs = [])) := by
    refine ⟨_, _, rfl, ?_, rfl, ?_⟩
    · by_cases h : m % 600 < 500
      · simp [h]
      · simp [h]; omega
    · simp only [decide_eq_true_eq, decide_eq_false_iff_not]
      rcases hc with h | h | h | h
      · exact .inl h
      · exact .inr (.inl ⟨by omega, h.2⟩)
      · exact .inr (.inr (.inl ⟨by omega, h.2⟩))
      · exact .inr (.inr (.inr ⟨by omega, h.2.1, by omega, h.2.2.2⟩))
  clear hc
  obtain ⟨k1, k2, hk1, hk2, hk3, hc⟩ := hc2
  rcases hc with ⟨rfl, rfl, rfl, rfl⟩ | ⟨rfl, rfl, rfl, rfl, rfl⟩ | ⟨rfl, rfl, rfl, rfl, rfl, rfl⟩ | ⟨rfl, rfl, rfl, rfl, rfl, rfl⟩
  · rcases nr with _ | _
    all_goals
      go_enter Try.func9, Try.ntmps9
      go_wp2_with fail
      refine (New_ok 3 1 _ rfl rfl).mono ?_
      rintro x w1 ⟨rfl, d1, rfl⟩
      go_wp2_with fail
      (refine wp_region_segs (fun i => if i = 2 then some (FeedF q1, FeedS q1) else none) [([0, 1], .m, 2)] [3, 4] [5, 6] [7] (by kernel_rfl) (by kernel_rfl) (by simp only [List.map_cons, List.map_nil, List.filterMap_cons, List.filterMap_nil, List.getElem?_toArray, List.getElem?_cons_succ, List.getElem?_cons_zero]; try exact rfl) (by simp only [List.filterMap_cons, List.filterMap_nil, List.getElem?_toArray, List.getElem?_cons_succ, List.getElem?_cons_zero]; try exact rfl) (by simp only [List.filterMap_cons, List.filterMap_nil, List.getElem?_toArray, List.getElem?_cons_succ, List.getElem?_cons_zero]; try exact rfl) (by simp only [List.filterMap_cons, List.filterMap_nil, List.getElem?_toArray, List.getElem?_cons_succ, List.getElem?_cons_zero]; try exact rfl) (by decide) ?_)
      (refine sg_m ?_; (repeat (first | (refine ql_plain rfl rfl ?_; intro K hK; go_big_quiet_op; go_big_quiet_on) | (refine ql_nilCheck rfl rfl rfl ?_; intro K hK; simp only [Act.put, List.setIfInBounds_toArray, List.set_cons_succ, List.set_cons_zero]; go_big_quiet_on) | (refine ql_call (fun _ => event_any _ _ _ _ _) rfl rfl Try.func23 rfl (by kernel_rfl) rfl ?_; intro K hK; simp only [Act.put, List.setIfInBounds_toArray, List.set_cons_succ, List.set_cons_zero]; go_big_quiet_on) | (refine ql_skip rfl ?_; intro K hK; simp only [Act.put, List.setIfInBounds_toArray, List.set_cons_succ, List.set_cons_zero]; go_big_quiet_on))); refine ql_nil ?_)
      (refine sg_call (f := 20) (FeedF q1) (FeedS q1) rfl (FeedF.shp q1) (FeedF.stable q1) (fun d => f1.out _ _ _ (newR_rep _ _ _ _)) (by simp only [List.getElem?_toArray, List.getElem?_cons_succ, List.getElem?_cons_zero]; try exact rfl) rfl rfl Try.func20 rfl (by kernel_rfl) rfl ?_; intro u hu hS K hK; obtain ⟨a1, c1, va1, vn1, vc1, rfl⟩ := hS; simp only [Act.put, List.setIfInBounds_toArray, List.set_cons_succ, List.set_cons_zero]; refine hK _ ?_; clear hK K)
      (refine sg_last ?_; (repeat (first | (refine ql_plain rfl rfl ?_; intro K hK; go_big_quiet_op; go_big_quiet_on) | (refine ql_nilCheck rfl rfl rfl ?_; intro K hK; simp only [Act.put, List.setIfInBounds_toArray, List.set_cons_succ, List.set_cons_zero]; go_big_quiet_on) | fail | (refine ql_skip rfl ?_; intro K hK; simp only [Act.put, List.setIfInBounds_toArray, List.set_cons_succ, List.set_cons_zero]; go_big_quiet_on))); refine ql_nil ?_; (repeat (first | (refine pl_plain rfl rfl ?_; intro K hK; go_big_quiet_op; go_big_quiet_on) | (refine pl_nilCheck rfl rfl rfl ?_; intro K hK; simp only [Act.put, List.setIfInBounds_toArray, List.set_cons_succ, List.set_cons_zero]; go_big_quiet_on))); refine pl_nil ?_)
      rintro w1 he1 ⟨_, hf1⟩
      obtain ⟨d2, rfl⟩ := he1
      have hr1 := Lib.hid (FeedF.use hf1).1
      clear hf1
      go_wp2; refine only_normal ?_
      go_wp2_with fail
      (refine wp_region_segs (fun i => if i = 9 then some (FeedF q2, FeedS q2) else none) [([0, 1, 2, 3, 4, 5, 6, 7, 8], .m, 9)] [10, 11] [12, 13] [14, 15, 16] (by kernel_rfl) (by kernel_rfl) (by simp only [List.map_cons, List.map_nil, List.filterMap_cons, List.filterMap_nil, List.getElem?_toArray, List.getElem?_cons_succ, List.getElem?_cons_zero]; try exact rfl) (by simp only [List.filterMap_cons, List.filterMap_nil, List.getElem?_toArray, List.getElem?_cons_succ, List.getElem?_cons_zero]; try exact rfl) (by simp only [List.filterMap_cons, List.filterMap_nil, List.getElem?_toArray, List.getElem?_cons_succ, List.getElem?_cons_zero]; try exact rfl) (by simp only [List.filterMap_cons, List.filterMap_nil, List.getElem?_toArray, List.getElem?_cons_succ, List.getElem?_cons_zero]; try exact rfl) (by decide) ?_)
      (refine sg_m ?_; (repeat (first | (refine ql_plain rfl rfl ?_; intro K hK; go_big_quiet_op; go_big_quiet_on) | (refine ql_nilCheck rfl rfl rfl ?_; intro K hK; simp only [Act.put, List.setIfInBounds_toArray, List.set_cons_succ, List.set_cons_zero]; go_big_quiet_on) | (refine ql_call (fun _ => event_any _ _ _ _ _) rfl rfl Try.func23 rfl (by kernel_rfl) rfl ?_; intro K hK; simp only [Act.put, List.setIfInBounds_toArray, List.set_cons_succ, List.set_cons_zero]; go_big_quiet_on) | (refine ql_skip rfl ?_; intro K hK; simp only [Act.put, List.setIfInBounds_toArray, List.set_cons_succ, List.set_cons_zero]; go_big_quiet_on))); refine ql_nil ?_)
      (refine sg_call (f := 20) (FeedF q2) (FeedS q2) rfl (FeedF.shp q2) (FeedF.stable q2) (fun d => f2.out _ _ _ ((hr1.out.turn (b := (w.ext d1).heap.size) (by (repeat (first | exact Like.refl _ _ | refine Like.ext ?_ _ | refine Like.alloc ?_ _ | refine Like.swap ?_ (by simp <;> omega) _ _))) (heap_some_ext (heap_alloc_new (w.ext d1) _) (by (repeat (first | exact Ext.refl _ | assumption | refine Ext.alloc ?_ _ | refine Ext.ext ?_ _ | refine Ext.drew ?_))))).ext (Ext.ext (Ext.refl _) d)).rep) (by simp only [List.getElem?_toArray, List.getElem?_cons_succ, List.getElem?_cons_zero]; try exact rfl) rfl rfl Try.func20 rfl (by kernel_rfl) rfl ?_; intro u hu hS K hK; obtain ⟨a2, c2, va2, vn2, vc2, rfl⟩ := hS; simp only [Act.put, List.setIfInBounds_toArray, List.set_cons_succ, List.set_cons_zero]; refine hK _ ?_; clear hK K)
      (refine sg_last ?_; (repeat (first | (refine ql_plain rfl rfl ?_; intro K hK; go_big_quiet_op; go_big_quiet_on) | (refine ql_nilCheck rfl rfl rfl ?_; intro K hK; simp only [Act.put, List.setIfInBounds_toArray, List.set_cons_succ, List.set_cons_zero]; go_big_quiet_on) | fail | (refine ql_skip rfl ?_; intro K hK; simp only [Act.put, List.setIfInBounds_toArray, List.set_cons_succ, List.set_cons_zero]; go_big_quiet_on))); refine ql_nil ?_; (repeat (first | (refine pl_plain rfl rfl ?_; intro K hK; go_big_quiet_op; go_big_quiet_on) | (refine pl_nilCheck rfl rfl rfl ?_; intro K hK; simp only [Act.put, List.setIfInBounds_toArray, List.set_cons_succ, List.set_cons_zero]; go_big_quiet_on))); refine pl_nil ?_)
      rintro w1 he1 ⟨_, hf2⟩
      obtain ⟨d3, rfl⟩ := he1
      have hr2 := Lib.hid (FeedF.use hf2).1
      clear hf2 hr1
      go_wp2; refine only_normal ?_
      go_wp2_with fail
      (refine wp_region_segs (fun i => if i = 3 then some (FeedF q3, FeedS q3) else none) [([0, 1, 2], .m, 3)] [4, 5] [6, 7] [8, 9, 10] (by kernel_rfl) (by kernel_rfl) (by simp only [List.map_cons, List.map_nil, List.filterMap_cons, List.filterMap_nil, List.getElem?_toArray, List.getElem?_cons_succ, List.getElem?_cons_zero]; try exact rfl) (by simp only [List.filterMap_cons, List.filterMap_nil, List.getElem?_toArray, List.getElem?_cons_succ, List.getElem?_cons_zero]; try exact rfl) (by simp only [List.filterMap_cons, List.filterMap_nil, List.getElem?_toArray, List.getElem?_cons_succ, List.getElem?_cons_zero]; try exact rfl) (by simp only [List.filterMap_cons, List.filterMap_nil, List.getElem?_toArray, List.getElem?_cons_succ, List.getElem?_cons_zero]; try exact rfl) (by decide) ?_)
      (refine sg_m ?_; (repeat (first | (refine ql_plain rfl rfl ?_; intro K hK; go_big_quiet_op; go_big_quiet_on) | (refine ql_nilCheck rfl rfl rfl ?_; intro K hK; simp only [Act.put, List.setIfInBounds_toArray, List.set_cons_succ, List.set_cons_zero]; go_big_quiet_on) | (refine ql_call (fun _ => event_any _ _ _ _ _) rfl rfl Try.func23 rfl (by kernel_rfl) rfl ?_; intro K hK; simp only [Act.put, List.setIfInBounds_toArray, List.set_cons_succ, List.set_cons_zero]; go_big_quiet_on) | (refine ql_skip rfl ?_; intro K hK; simp only [Act.put, List.setIfInBounds_toArray, List.set_cons_succ, List.set_cons_zero]; go_big_quiet_on))); refine ql_nil ?_)
      (refine sg_call (f := 20) (FeedF q3) (FeedS q3) rfl (FeedF.shp q3) (FeedF.stable q3) (fun d => f3.out _ _ _ ((hr2.out.turn (b := (w.ext d1).heap.size) (by (repeat (first | exact Like.refl _ _ | refine Like.ext ?_ _ | refine Like.alloc ?_ _ | refine Like.swap ?_ (by simp <;> omega) _ _))) (heap_some_ext (heap_alloc_new (w.ext d1) _) (by (repeat (first | exact Ext.refl _ | assumption | refine Ext.alloc ?_ _ | refine Ext.ext ?_ _ | refine Ext.drew ?_))))).ext (Ext.ext (Ext.refl _) d)).rep) (by simp only [List.getElem?_toArray, List.getElem?_cons_succ, List.getElem?_cons_zero]; try exact rfl) rfl rfl Try.func20 rfl (by kernel_rfl) rfl ?_; intro u hu hS K hK; obtain ⟨a3, c3, va3, vn3, vc3, rfl⟩ := hS; simp only [Act.put, List.setIfInBounds_toArray, List.set_cons_succ, List.set_cons_zero]; refine hK _ ?_; clear hK K)
      (refine sg_last ?_; (repeat (first | (refine ql_plain rfl rfl ?_; intro K hK; go_big_quiet_op; go_big_quiet_on) | (refine ql_nilCheck rfl rfl rfl ?_; intro K hK; simp only [Act.put, List.setIfInBounds_toArray, List.set_cons_succ, List.set_cons_zero]; go_big_quiet_on) | fail | (refine ql_skip rfl ?_; intro K hK; simp only [Act.put, List.setIfInBounds_toArray, List.set_cons_succ, List.set_cons_zero]; go_big_quiet_on))); refine ql_nil ?_; (repeat (first | (refine pl_plain rfl rfl ?_; intro K hK; go_big_quiet_op; go_big_quiet_on) | (refine pl_nilCheck rfl rfl rfl ?_; intro K hK; simp only [Act.put, List.setIfInBounds_toArray, List.set_cons_succ, List.set_cons_zero]; go_big_quiet_on))); refine pl_nil ?_)
      rintro w1 he1 ⟨_, hf3⟩
      obtain ⟨d4, rfl⟩ := he1
      have hr3 := Lib.hid (FeedF.use hf3).1
      clear hf3 hr2
      go_wp2; refine only_normal ?_
      go_wp2_with fail
      refine (f4.out _ _ _ (hr3.out.turn (b := (w.ext d1).heap.size) (by (repeat (first | exact Like.refl _ _ | refine Like.ext ?_ _ | refine Like.alloc ?_ _ | refine Like.swap ?_ (by simp <;> omega) _ _))) (heap_some_ext (heap_alloc_new (w.ext d1) _) (by (repeat (first | exact Ext.refl _ | assumption | refine Ext.alloc ?_ _ | refine Ext.ext ?_ _ | refine Ext.drew ?_))))).rep).mono ?_
      rintro x W ⟨a5, c5, v, rfl, hx, _, hg⟩
      obtain ⟨b, off, cg, rfl, hcg⟩ := hg.one
      have hE : Hid (Ext w W) := Ext.trans (by (repeat (first | exact Ext.refl _ | assumption | refine Ext.alloc ?_ _ | refine Ext.ext ?_ _ | refine Ext.drew ?_))) hx
      clear hx hr3
      have p1 : W.cell? ⟨b, off + 2, none⟩ = some (.int .i64 1) := hcg 2 _ rfl
      have p2 : W.cell? ⟨b, off + 3, none⟩ = some (.int .i64 0) := hcg 3 _ rfl
      have p3 : W.cell? ⟨b, off + 4, none⟩ = some (.int .i64 0) := hcg 4 _ rfl
      have hb := World.block_lt_of_cell? W _ p1
      simp only at hb
      clear hcg
      go_wp2_with fail
      refine (awake_any _).mono ?_
      rintro x w1 ⟨rfl, d5, rfl⟩
      go_wp2
      go_ret
      refine ⟨rfl, Ext.trans hE.out ?_⟩
      (repeat (first | exact Ext.refl _ | assumption | refine Ext.alloc ?_ _ | refine Ext.ext ?_ _ | refine Ext.drew ?_))
  · 
    go_enter Try.func9, Try.ntmps9
    go_wp2_with fail
    refine (New_ok 3 1 _ rfl rfl).mono ?_
    rintro x w1 ⟨rfl, d1, rfl⟩
    go_wp2_with fail
    (refine wp_region_segs (fun i => if i = 2 then some (FeedF q1, FeedS q1) else none) [([0, 1], .m, 2)] [3, 4] [5, 6] [7] (by kernel_rfl) (by kernel_rfl) (by simp only [List.map_cons, List.map_nil, List.filterMap_cons, List.filterMap_nil, List.getElem?_toArray, List.getElem?_cons_succ, List.getElem?_cons_zero]; try exact rfl) (by simp only [List.filterMap_cons, List.filterMap_nil, List.getElem?_toArray, List.getElem?_cons_succ, List.getElem?_cons_zero]; try exact rfl) (by simp only [List.filterMap_cons, List.filterMap_nil, List.getElem?_toArray, List.getElem?_cons_succ, List.getElem?_cons_zero]; try exact rfl) (by simp only [List.filterMap_cons, List.filterMap_nil, List.getElem?_toArray, List.getElem?_cons_succ, List.getElem?_cons_zero]; try exact rfl) (by decide) ?_)
    (refine sg_m ?_; (repeat (first | (refine ql_plain rfl rfl ?_; intro K hK; go_big_quiet_op; go_big_quiet_on) | (refine ql_nilCheck rfl rfl rfl ?_; intro K hK; simp only [Act.put, List.setIfInBounds_toArray, List.set_cons_succ, List.set_cons_zero]; go_big_quiet_on) | (refine ql_call (fun _ => event_any _ _ _ _ _) rfl rfl Try.func23 rfl (by kernel_rfl) rfl ?_; intro K hK; simp only [Act.put, List.setIfInBounds_toArray, List.set_cons_succ, List.set_cons_zero]; go_big_quiet_on) | (refine ql_skip rfl ?_; intro K hK; simp only [Act.put, List.setIfInBounds_toArray, List.set_cons_succ, List.set_cons_zero]; go_big_quiet_on))); refine ql_nil ?_)
    (refine sg_call (f := 20) (FeedF q1) (FeedS q1) rfl (FeedF.shp q1) (FeedF.stable q1) (fun d => f1.out _ _ _ (newR_rep _ _ _ _)) (by simp only [List.getElem?_toArray, List.getElem?_cons_succ, List.getElem?_cons_zero]; try exact rfl) rfl rfl Try.func20 rfl (by kernel_rfl) rfl ?_; intro u hu hS K hK; obtain ⟨a1, c1, va1, vn1, vc1, rfl⟩ := hS; simp only [Act.put, List.setIfInBounds_toArray, List.set_cons_succ, List.set_cons_zero]; refine hK _ ?_; clear hK K)
    (refine sg_last ?_; (repeat (first | (refine ql_plain rfl rfl ?_; intro K hK; go_big_quiet_op; go_big_quiet_on) | (refine ql_nilCheck rfl rfl rfl ?_; intro K hK; simp only [Act.put, List.setIfInBounds_toArray, List.set_cons_succ, List.set_cons_zero]; go_big_quiet_on) | fail | (refine ql_skip rfl ?_; intro K hK; simp only [Act.put, List.setIfInBounds_toArray, List.set_cons_succ, List.set_cons_zero]; go_big_quiet_on))); refine ql_nil ?_; (repeat (first | (refine pl_plain rfl rfl ?_; intro K hK; go_big_quiet_op; go_big_quiet_on) | (refine pl_nilCheck rfl rfl rfl ?_; intro K hK; simp only [Act.put, List.setIfInBounds_toArray, List.set_cons_succ, List.set_cons_zero]; go_big_quiet_on))); refine pl_nil ?_)
    rintro w1 he1 ⟨_, hf1⟩
    obtain ⟨d2, rfl⟩ := he1
    have hr1 := Lib.hid (FeedF.use hf1).1
    clear hf1
    go_wp2; refine only_normal ?_
    go_wp2_with fail
    (refine wp_region_segs (fun i => if i = 9 then some (FeedF q2, FeedS q2) else none) [([0, 1, 2, 3, 4, 5, 6, 7, 8], .m, 9)] [10, 11] [12, 13] [14, 15, 16] (by kernel_rfl) (by kernel_rfl) (by simp only [List.map_cons, List.map_nil, List.filterMap_cons, List.filterMap_nil, List.getElem?_toArray, List.getElem?_cons_succ, List.getElem?_cons_zero]; try exact rfl) (by simp only [List.filterMap_cons, List.filterMap_nil, List.getElem?_toArray, List.getElem?_cons_succ, List.getElem?_cons_zero]; try exact rfl) (by simp only [List.filterMap_cons, List.filterMap_nil, List.getElem?_toArray, List.getElem?_cons_succ, List.getElem?_cons_zero]; try exact rfl) (by simp only [List.filterMap_cons, List.filterMap_nil, List.getElem?_toArray, List.getElem?_cons_succ, List.getElem?_cons_zero]; try exact rfl) (by decide) ?_)
    (refine sg_m ?_; (repeat (first | (refine ql_plain rfl rfl ?_; intro K hK; go_big_quiet_op; go_big_quiet_on) | (refine ql_nilCheck rfl rfl rfl ?_; intro K hK; simp only [Act.put, List.setIfInBounds_toArray, List.set_cons_succ, List.set_cons_zero]; go_big_quiet_on) | (refine ql_call (fun _ => event_any _ _ _ _ _) rfl rfl Try.func23 rfl (by kernel_rfl) rfl ?_; intro K hK; simp only [Act.put, List.setIfInBounds_toArray, List.set_cons_succ, List.set_cons_zero]; go_big_quiet_on) | (refine ql_skip rfl ?_; intro K hK; simp only [Act.put, List.setIfInBounds_toArray, List.set_cons_succ, List.set_cons_zero]; go_big_quiet_on))); refine ql_nil ?_)
    (refine sg_call (f := 20) (FeedF q2) (FeedS q2) rfl (FeedF.shp q2) (FeedF.stable q2) (fun d => f2.out _ _ _ ((hr1.out.turn (b := (w.ext d1).heap.size) (by (repeat (first | exact Like.refl _ _ | refine Like.ext ?_ _ | refine Like.alloc ?_ _ | refine Like.swap ?_ (by simp <;> omega) _ _))) (heap_some_ext (heap_alloc_new (w.ext d1) _) (by (repeat (first | exact Ext.refl _ | assumption | refine Ext.alloc ?_ _ | refine Ext.ext ?_ _ | refine Ext.drew ?_))))).ext (Ext.ext (Ext.refl _) d)).rep) (by simp only [List.getElem?_toArray, List.getElem?_cons_succ, List.getElem?_cons_zero]; try exact rfl) rfl rfl Try.func20 rfl (by kernel_rfl) rfl ?_; intro u hu hS K hK; obtain ⟨a2, c2, va2, vn2, vc2, rfl⟩ := hS; simp only [Act.put, List.setIfInBounds_toArray, List.set_cons_succ, List.set_cons_zero]; refine hK _ ?_; clear hK K)
    (refine sg_last ?_; (repeat (first | (refine ql_plain rfl rfl ?_; intro K hK; go_big_quiet_op; go_big_quiet_on) | (refine ql_nilCheck rfl rfl rfl ?_; intro K hK; simp only [Act.put, List.setIfInBounds_toArray, List.set_cons_succ, List.set_cons_zero]; go_big_quiet_on) | fail | (refine ql_skip rfl ?_; intro K hK; simp only [Act.put, List.setIfInBounds_toArray, List.set_cons_succ, List.set_cons_zero]; go_big_quiet_on))); refine ql_nil ?_; (repeat (first | (refine pl_plain rfl rfl ?_; intro K hK; go_big_quiet_op; go_big_quiet_on) | (refine pl_nilCheck rfl rfl rfl ?_; intro K hK; simp only [Act.put, List.setIfInBounds_toArray, List.set_cons_succ, List.set_cons_zero]; go_big_quiet_on))); refine pl_nil ?_)
    rintro w1 he1 ⟨_, hf2⟩
    obtain ⟨d3, rfl⟩ := he1
    have hr2 := Lib.hid (FeedF.use hf2).1
    clear hf2 hr1
    go_wp2; refine only_normal ?_
    go_wp2_with fail
    (refine wp_region_segs (fun i => if i = 3 then some (FeedF q3, FeedS q3) else none) [([0, 1, 2], .m, 3)] [4, 5] [6, 7] [8, 9, 10] (by kernel_rfl) (by kernel_rfl) (by simp only [List.map_cons, List.map_nil, List.filterMap_cons, List.filterMap_nil, List.getElem?_toArray, List.getElem?_cons_succ, List.getElem?_cons_zero]; try exact rfl) (by simp only [List.filterMap_cons, List.filterMap_nil, List.getElem?_toArray, List.getElem?_cons_succ, List.getElem?_cons_zero]; try exact rfl) (by simp only [List.filterMap_cons, List.filterMap_nil, List.getElem?_toArray, List.getElem?_cons_succ, List.getElem?_cons_zero]; try exact rfl) (by simp only [List.filterMap_cons, List.filterMap_nil, List.getElem?_toArray, List.getElem?_cons_succ, List.getElem?_cons_zero]; try exact rfl) (by decide) ?_)
    (refine sg_m ?_; (repeat (first | (refine ql_plain rfl rfl ?_; intro K hK; go_big_quiet_op; go_big_quiet_on) | (refine ql_nilCheck rfl rfl rfl ?_; intro K hK; simp only [Act.put, List.setIfInBounds_toArray, List.set_cons_succ, List.set_cons_zero]; go_big_quiet_on) | (refine ql_call (fun _ => event_any _ _ _ _ _) rfl rfl Try.func23 rfl (by kernel_rfl) rfl ?_; intro K hK; simp only [Act.put, List.setIfInBounds_toArray, List.set_cons_succ, List.set_cons_zero]; go_big_quiet_on) | (refine ql_skip rfl ?_; intro K hK; simp only [Act.put, List.setIfInBounds_toArray, List.set_cons_succ, List.set_cons_zero]; go_big_quiet_on))); refine ql_nil ?_)
    (refine sg_call (f := 20) (FeedF q3) (FeedS q3) rfl (FeedF.shp q3) (FeedF.stable q3) (fun d => f3.out _ _ _ ((hr2.out.turn (b := (w.ext d1).heap.size) (by (repeat (first | exact Like.refl _ _ | refine Like.ext ?_ _ | refine Like.alloc ?_ _ | refine Like.swap ?_ (by simp <;> omega) _ _))) (heap_some_ext (heap_alloc_new (w.ext d1) _) (by (repeat (first | exact Ext.refl _ | assumption | refine Ext.alloc ?_ _ | refine Ext.ext ?_ _ | refine Ext.drew ?_))))).ext (Ext.ext (Ext.refl _) d)).rep) (by simp only [List.getElem?_toArray, List.getElem?_cons_succ, List.getElem?_cons_zero]; try exact rfl) rfl rfl Try.func20 rfl (by kernel_rfl) rfl ?_; intro u hu hS K hK; obtain ⟨a3, c3, va3, vn3, vc3, rfl⟩ := hS; simp only [Act.put, List.setIfInBounds_toArray, List.set_cons_succ, List.set_cons_zero]; refine hK _ ?_; clear hK K)
    (refine sg_last ?_; (repeat (first | (refine ql_plain rfl rfl ?_; intro K hK; go_big_quiet_op; go_big_quiet_on) | (refine ql_nilCheck rfl rfl rfl ?_; intro K hK; simp only [Act.put, List.setIfInBounds_toArray, List.set_cons_succ, List.set_cons_zero]; go_big_quiet_on) | fail | (refine ql_skip rfl ?_; intro K hK; simp only [Act.put, List.setIfInBounds_toArray, List.set_cons_succ, List.set_cons_zero]; go_big_quiet_on))); refine ql_nil ?_; (repeat (first | (refine pl_plain rfl rfl ?_; intro K hK; go_big_quiet_op; go_big_quiet_on) | (refine pl_nilCheck rfl rfl rfl ?_; intro K hK; simp only [Act.put, List.setIfInBounds_toArray, List.set_cons_succ, List.set_cons_zero]; go_big_quiet_on))); refine pl_nil ?_)
    rintro w1 he1 ⟨_, hf3⟩
    obtain ⟨d4, rfl⟩ := he1
    have hr3 := Lib.hid (FeedF.use hf3).1
    clear hf3 hr2
    go_wp2; refine only_normal ?_
    go_wp2_with fail
    refine (f4.out _ _ _ (hr3.out.turn (b := (w.ext d1).heap.size) (by (repeat (first | exact Like.refl _ _ | refine Like.ext ?_ _ | refine Like.alloc ?_ _ | refine Like.swap ?_ (by simp <;> omega) _ _))) (heap_some_ext (heap_alloc_new (w.ext d1) _) (by (repeat (first | exact Ext.refl _ | assumption | refine Ext.alloc ?_ _ | refine Ext.ext ?_ _ | refine Ext.drew ?_))))).rep).mono ?_
    rintro x W ⟨a5, c5, v, rfl, hx, _, hg⟩
    obtain ⟨ag, cg, rfl⟩ := hg.none
    have hE : Hid (Ext w W) := Ext.trans (by (repeat (first | exact Ext.refl _ | assumption | refine Ext.alloc ?_ _ | refine Ext.ext ?_ _ | refine Ext.drew ?_))) hx
    clear hx hr3
    go_wp2_with fail
    refine (awake_any _).mono ?_
    rintro x w1 ⟨rfl, d5, rfl⟩
    go_wp2
    go_ret
    refine ⟨rfl, Ext.trans hE.out ?_⟩
    (repeat (first | exact Ext.refl _ | assumption | refine Ext.alloc ?_ _ | refine Ext.ext ?_ _ | refine Ext.drew ?_))
  · 
    go_enter Try.func9, Try.ntmps9
    go_wp2_with fail
    refine (New_ok 3 1 _ rfl rfl).mono ?_
    rintro x w1 ⟨rfl, d1, rfl⟩
    go_wp2_with fail
    (refine wp_region_segs (fun i => if i = 2 then some (FeedF q1, FeedS q1) else none) [([0, 1], .m, 2)] [3, 4] [5, 6] [7] (by kernel_rfl) (by kernel_rfl) (by simp only [List.map_cons, List.map_nil, List.filterMap_cons, List.filterMap_nil, List.getElem?_toArray, List.getElem?_cons_succ, List.getElem?_cons_zero]; try exact rfl) (by simp only [List.filterMap_cons, List.filterMap_nil, List.getElem?_toArray, List.getElem?_cons_succ, List.getElem?_cons_zero]; try exact rfl) (by simp only [List.filterMap_cons, List.filterMap_nil, List.getElem?_toArray, List.getElem?_cons_succ, List.getElem?_cons_zero]; try exact rfl) (by simp only [List.filterMap_cons, List.filterMap_nil, List.getElem?_toArray, List.getElem?_cons_succ, List.getElem?_cons_zero]; try exact rfl) (by decide) ?_)
    (refine sg_m ?_; (repeat (first | (refine ql_plain rfl rfl ?_; intro K hK; go_big_quiet_op; go_big_quiet_on) | (refine ql_nilCheck rfl rfl rfl ?_; intro K hK; simp only [Act.put, List.setIfInBounds_toArray, List.set_cons_succ, List.set_cons_zero]; go_big_quiet_on) | (refine ql_call (fun _ => event_any _ _ _ _ _) rfl rfl Try.func23 rfl (by kernel_rfl) rfl ?_; intro K hK; simp only [Act.put, List.setIfInBounds_toArray, List.set_cons_succ, List.set_cons_zero]; go_big_quiet_on) | (refine ql_skip rfl ?_; intro K hK; simp only [Act.put, List.setIfInBounds_toArray, List.set_cons_succ, List.set_cons_zero]; go_big_quiet_on))); refine ql_nil ?_)
    (refine sg_call (f := 20) (FeedF q1) (FeedS q1) rfl (FeedF.shp q1) (FeedF.stable q1) (fun d => f1.out _ _ _ (newR_rep _ _ _ _)) (by simp only [List.getElem?_toArray, List.getElem?_cons_succ, List.getElem?_cons_zero]; try exact rfl) rfl rfl Try.func20 rfl (by kernel_rfl) rfl ?_; intro u hu hS K hK; obtain ⟨a1, c1, va1, vn1, vc1, rfl⟩ := hS; simp only [Act.put, List.setIfInBounds_toArray, List.set_cons_succ, List.set_cons_zero]; refine hK _ ?_; clear hK K)
    (refine sg_last ?_; (repeat (first | (refine ql_plain rfl rfl ?_; intro K hK; go_big_quiet_op; go_big_quiet_on) | (refine ql_nilCheck rfl rfl rfl ?_; intro K hK; simp only [Act.put, List.setIfInBounds_toArray, List.set_cons_succ, List.set_cons_zero]; go_big_quiet_on) | fail | (refine ql_skip rfl ?_; intro K hK; simp only [Act.put, List.setIfInBounds_toArray, List.set_cons_succ, List.set_cons_zero]; go_big_quiet_on))); refine ql_nil ?_; (repeat (first | (refine pl_plain rfl rfl ?_; intro K hK; go_big_quiet_op; go_big_quiet_on) | (refine pl_nilCheck rfl rfl rfl ?_; intro K hK; simp only [Act.put, List.setIfInBounds_toArray, List.set_cons_succ, List.set_cons_zero]; go_big_quiet_on))); refine pl_nil ?_)
    rintro w1 he1 ⟨_, hf1⟩
    obtain ⟨d2, rfl⟩ := he1
    have hr1 := Lib.hid (FeedF.use hf1).1
    clear hf1
    go_wp2; refine only_normal ?_
    go_wp2_with fail
    (refine wp_region_segs (fun i => if i = 9 then some (FeedF q2, FeedS q2) else none) [([0, 1, 2, 3, 4, 5, 6, 7, 8], .m, 9)] [10, 11] [12, 13] [14, 15, 16] (by kernel_rfl) (by kernel_rfl) (by simp only [List.map_cons, List.map_nil, List.filterMap_cons, List.filterMap_nil, List.getElem?_toArray, List.getElem?_cons_succ, List.getElem?_cons_zero]; try exact rfl) (by simp only [List.filterMap_cons, List.filterMap_nil, List.getElem?_toArray, List.getElem?_cons_succ, List.getElem?_cons_zero]; try exact rfl) (by simp only [List.filterMap_cons, List.filterMap_nil, List.getElem?_toArray, List.getElem?_cons_succ, List.getElem?_cons_zero]; try exact rfl) (by simp only [List.filterMap_cons, List.filterMap_nil, List.getElem?_toArray, List.getElem?_cons_succ, List.getElem?_cons_zero]; try exact rfl) (by decide) ?_)
    (refine sg_m ?_; (repeat (first | (refine ql_plain rfl rfl ?_; intro K hK; go_big_quiet_op; go_big_quiet_on) | (refine ql_nilCheck rfl rfl rfl ?_; intro K hK; simp only [Act.put, List.setIfInBounds_toArray, List.set_cons_succ, List.set_cons_zero]; go_big_quiet_on) | (refine ql_call (fun _ => event_any _ _ _ _ _) rfl rfl Try.func23 rfl (by kernel_rfl) rfl ?_; intro K hK; simp only [Act.put, List.setIfInBounds_toArray, List.set_cons_succ, List.set_cons_zero]; go_big_quiet_on) | (refine ql_skip rfl ?_; intro K hK; simp only [Act.put, List.setIfInBounds_toArray, List.set_cons_succ, List.set_cons_zero]; go_big_quiet_on))); refine ql_nil ?_)
    (refine sg_call (f := 20) (FeedF q2) (FeedS q2) rfl (FeedF.shp q2) (FeedF.stable q2) (fun d => f2.out _ _ _ ((hr1.out.turn (b := (w.ext d1).heap.size) (by (repeat (first | exact Like.refl _ _ | refine Like.ext ?_ _ | refine Like.alloc ?_ _ | refine Like.swap ?_ (by simp <;> omega) _ _))) (heap_some_ext (heap_alloc_new (w.ext d1) _) (by (repeat (first | exact Ext.refl _ | assumption | refine Ext.alloc ?_ _ | refine Ext.ext ?_ _ | refine Ext.drew ?_))))).ext (Ext.ext (Ext.refl _) d)).rep) (by simp only [List.getElem?_toArray, List.getElem?_cons_succ, List.getElem?_cons_zero]; try exact rfl) rfl rfl Try.func20 rfl (by kernel_rfl) rfl ?_; intro u hu hS K hK; obtain ⟨a2, c2, va2, vn2, vc2, rfl⟩ := hS; simp only [Act.put, List.setIfInBounds_toArray, List.set_cons_succ, List.set_cons_zero]; refine hK _ ?_; clear hK K)
    (refine sg_last ?_; (repeat (first | (refine ql_plain rfl rfl ?_; intro K hK; go_big_quiet_op; go_big_quiet_on) | (refine ql_nilCheck rfl rfl rfl ?_; intro K hK; simp only [Act.put, List.setIfInBounds_toArray, List.set_cons_succ, List.set_cons_zero]; go_big_quiet_on) | fail | (refine ql_skip rfl ?_; intro K hK; simp only [Act.put, List.setIfInBounds_toArray, List.set_cons_succ, List.set_cons_zero]; go_big_quiet_on))); refine ql_nil ?_; (repeat (first | (refine pl_plain rfl rfl ?_; intro K hK; go_big_quiet_op; go_big_quiet_on) | (refine pl_nilCheck rfl rfl rfl ?_; intro K hK; simp only [Act.put, List.setIfInBounds_toArray, List.set_cons_succ, List.set_cons_zero]; go_big_quiet_on))); refine pl_nil ?_)
    rintro w1 he1 ⟨_, hf2⟩
    obtain ⟨d3, rfl⟩ := he1
    have hr2 := Lib.hid (FeedF.use hf2).1
    clear hf2 hr1
    go_wp2; refine only_normal ?_
    go_wp2_with fail
    (refine wp_region_segs (fun i => if i = 3 then some (FeedF q3, FeedS q3) else none) [([0, 1, 2], .m, 3)] [4, 5] [6, 7] [8, 9, 10] (by kernel_rfl) (by kernel_rfl) (by simp only [List.map_cons, List.map_nil, List.filterMap_cons, List.filterMap_nil, List.getElem?_toArray, List.getElem?_cons_succ, List.getElem?_cons_zero]; try exact rfl) (by simp only [List.filterMap_cons, List.filterMap_nil, List.getElem?_toArray, List.getElem?_cons_succ, List.getElem?_cons_zero]; try exact rfl) (by simp only [List.filterMap_cons, List.filterMap_nil, List.getElem?_toArray, List.getElem?_cons_succ, List.getElem?_cons_zero]; try exact rfl) (by simp only [List.filterMap_cons, List.filterMap_nil, List.getElem?_toArray, List.getElem?_cons_succ, List.getElem?_cons_zero]; try exact rfl) (by decide) ?_)
    (refine sg_m ?_; (repeat (first | (refine ql_plain rfl rfl ?_; intro K hK; go_big_quiet_op; go_big_quiet_on) | (refine ql_nilCheck rfl rfl rfl ?_; intro K hK; simp only [Act.put, List.setIfInBounds_toArray, List.set_cons_succ, List.set_cons_zero]; go_big_quiet_on) | (refine ql_call (fun _ => event_any _ _ _ _ _) rfl rfl Try.func23 rfl (by kernel_rfl) rfl ?_; intro K hK; simp only [Act.put, List.setIfInBounds_toArray, List.set_cons_succ, List.set_cons_zero]; go_big_quiet_on) | (refine ql_skip rfl ?_; intro K hK; simp only [Act.put, List.setIfInBounds_toArray, List.set_cons_succ, List.set_cons_zero]; go_big_quiet_on))); refine ql_nil ?_)
    (refine sg_call (f := 20) (FeedF q3) (FeedS q3) rfl (FeedF.shp q3) (FeedF.stable q3) (fun d => f3.out _ _ _ ((hr2.out.turn (b := (w.ext d1).heap.size) (by (repeat (first | exact Like.refl _ _ | refine Like.ext ?_ _ | refine Like.alloc ?_ _ | refine Like.swap ?_ (by simp <;> omega) _ _))) (heap_some_ext (heap_alloc_new (w.ext d1) _) (by (repeat (first | exact Ext.refl _ | assumption | refine Ext.alloc ?_ _ | refine Ext.ext ?_ _ | refine Ext.drew ?_))))).ext (Ext.ext (Ext.refl _) d)).rep) (by simp only [List.getElem?_toArray, List.getElem?_cons_succ, List.getElem?_cons_zero]; try exact rfl) rfl rfl Try.func20 rfl (by kernel_rfl) rfl ?_; intro u hu hS K hK; obtain ⟨a3, c3, va3, vn3, vc3, rfl⟩ := hS; simp only [Act.put, List.setIfInBounds_toArray, List.set_cons_succ, List.set_cons_zero]; refine hK _ ?_; clear hK K)
    (refine sg_last ?_; (repeat (first | (refine ql_plain rfl rfl ?_; intro K hK; go_big_quiet_op; go_big_quiet_on) | (refine ql_nilCheck rfl rfl rfl ?_; intro K hK; simp only [Act.put, List.setIfInBounds_toArray, List.set_cons_succ, List.set_cons_zero]; go_big_quiet_on) | fail | (refine ql_skip rfl ?_; intro K hK; simp only [Act.put, List.setIfInBounds_toArray, List.set_cons_succ, List.set_cons_zero]; go_big_quiet_on))); refine ql_nil ?_; (repeat (first | (refine pl_plain rfl rfl ?_; intro K hK; go_big_quiet_op; go_big_quiet_on) | (refine pl_nilCheck rfl rfl rfl ?_; intro K hK; simp only [Act.put, List.setIfInBounds_toArray, List.set_cons_succ, List.set_cons_zero]; go_big_quiet_on))); refine pl_nil ?_)
    rintro w1 he1 ⟨_, hf3⟩
    obtain ⟨d4, rfl⟩ := he1
    have hr3 := Lib.hid (FeedF.use hf3).1
    clear hf3 hr2
    go_wp2; refine only_normal ?_
    go_wp2_with fail
    refine (f4.out _ _ _ (hr3.out.turn (b := (w.ext d1).heap.size) (by (repeat (first | exact Like.refl _ _ | refine Like.ext ?_ _ | refine Like.alloc ?_ _ | refine Like.swap ?_ (by simp <;> omega) _ _))) (heap_some_ext (heap_alloc_new (w.ext d1) _) (by (repeat (first | exact Ext.refl _ | assumption | refine Ext.alloc ?_ _ | refine Ext.ext ?_ _ | refine Ext.drew ?_))))).rep).mono ?_
    rintro x W ⟨a5, c5, v, rfl, hx, _, hg⟩
    obtain ⟨b, off, cg, rfl, hcg⟩ := hg.one
    have hE : Hid (Ext w W) := Ext.trans (by (repeat (first | exact Ext.refl _ | assumption | refine Ext.alloc ?_ _ | refine Ext.ext ?_ _ | refine Ext.drew ?_))) hx
    clear hx hr3
    have p1 : W.cell? ⟨b, off + 2, none⟩ = some (.int .i64 1) := hcg 2 _ rfl
    have p2 : W.cell? ⟨b, off + 3, none⟩ = some (.int .i64 0) := hcg 3 _ rfl
    have p3 : W.cell? ⟨b, off + 4, none⟩ = some (.int .i64 0) := hcg 4 _ rfl
    have hb := World.block_lt_of_cell? W _ p1
    simp only at hb
    clear hcg
    go_wp2_with fail
    refine (awake_any _).mono ?_
    rintro x w1 ⟨rfl, d5, rfl⟩
    go_wp2
    go_ret
    refine ⟨rfl, Ext.trans hE.out ?_⟩
    (repeat (first | exact Ext.refl _ | assumption | refine Ext.alloc ?_ _ | refine Ext.ext ?_ _ | refine Ext.drew ?_))
  · 
    go_enter Try.func9, Try.ntmps9
    go_wp2_with fail
    refine (New_ok 3 1 _ rfl rfl).mono ?_
    rintro x w1 ⟨rfl, d1, rfl⟩
    go_wp2_with fail
    (refine wp_region_segs (fun i => if i = 2 then some (FeedF q1, FeedS q1) else none) [([0, 1], .m, 2)] [3, 4] [5, 6] [7] (by kernel_rfl) (by kernel_rfl) (by simp only [List.map_cons, List.map_nil, List.filterMap_cons, List.filterMap_nil, List.getElem?_toArray, List.getElem?_cons_succ, List.getElem?_cons_zero]; try exact rfl) (by simp only [List.filterMap_cons, List.filterMap_nil, List.getElem?_toArray, List.getElem?_cons_succ, List.getElem?_cons_zero]; try exact rfl) (by simp only [List.filterMap_cons, List.filterMap_nil, List.getElem?_toArray, List.getElem?_cons_succ, List.getElem?_cons_zero]; try exact rfl) (by simp only [List.filterMap_cons, List.filterMap_nil, List.getElem?_toArray, List.getElem?_cons_succ, List.getElem?_cons_zero]; try exact rfl) (by decide) ?_)
    (refine sg_m ?_; (repeat (first | (refine ql_plain rfl rfl ?_; intro K hK; go_big_quiet_op; go_big_quiet_on) | (refine ql_nilCheck rfl rfl rfl ?_; intro K hK; simp only [Act.put, List.setIfInBounds_toArray, List.set_cons_succ, List.set_cons_zero]; go_big_quiet_on) | (refine ql_call (fun _ => event_any _ _ _ _ _) rfl rfl Try.func23 rfl (by kernel_rfl) rfl ?_; intro K hK; simp only [Act.put, List.setIfInBounds_toArray, List.set_cons_succ, List.set_cons_zero]; go_big_quiet_on) | (refine ql_skip rfl ?_; intro K hK; simp only [Act.put, List.setIfInBounds_toArray, List.set_cons_succ, List.set_cons_zero]; go_big_quiet_on))); refine ql_nil ?_)
    (refine sg_call (f := 20) (FeedF q1) (FeedS q1) rfl (FeedF.shp q1) (FeedF.stable q1) (fun d => f1.out _ _ _ (newR_rep _ _ _ _)) (by simp only [List.getElem?_toArray, List.getElem?_cons_succ, List.getElem?_cons_zero]; try exact rfl) rfl rfl Try.func20 rfl (by kernel_rfl) rfl ?_; intro u hu hS K hK; obtain ⟨a1, c1, va1, vn1, vc1, rfl⟩ := hS; simp only [Act.put, List.setIfInBounds_toArray, List.set_cons_succ, List.set_cons_zero]; refine hK _ ?_; clear hK K)
    (refine sg_last ?_; (repeat (first | (refine ql_plain rfl rfl ?_; intro K hK; go_big_quiet_op; go_big_quiet_on) | (refine ql_nilCheck rfl rfl rfl ?_; intro K hK; simp only [Act.put, List.setIfInBounds_toArray, List.set_cons_succ, List.set_cons_zero]; go_big_quiet_on) | fail | (refine ql_skip rfl ?_; intro K hK; simp only [Act.put, List.setIfInBounds_toArray, List.set_cons_succ, List.set_cons_zero]; go_big_quiet_on))); refine ql_nil ?_; (repeat (first | (refine pl_plain rfl rfl ?_; intro K hK; go_big_quiet_op; go_big_quiet_on) | (refine pl_nilCheck rfl rfl rfl ?_; intro K hK; simp only [Act.put, List.setIfInBounds_toArray, List.set_cons_succ, List.set_cons_zero]; go_big_quiet_on))); refine pl_nil ?_)
    rintro w1 he1 ⟨_, hf1⟩
    obtain ⟨d2, rfl⟩ := he1
    have hr1 := Lib.hid (FeedF.use hf1).1
    clear hf1
    go_wp2; refine only_normal ?_
    go_wp2_with fail
    (refine wp_region_segs (fun i => if i = 9 then some (FeedF q2, FeedS q2) else none) [([0, 1, 2, 3, 4, 5, 6, 7, 8], .m, 9)] [10, 11] [12, 13] [14, 15, 16] (by kernel_rfl) (by kernel_rfl) (by simp only [List.map_cons, List.map_nil, List.filterMap_cons, List.filterMap_nil, List.getElem?_toArray, List.getElem?_cons_succ, List.getElem?_cons_zero]; try exact rfl) (by simp only [List.filterMap_cons, List.filterMap_nil, List.getElem?_toArray, List.getElem?_cons_succ, List.getElem?_cons_zero]; try exact rfl) (by simp only [List.filterMap_cons, List.filterMap_nil, List.getElem?_toArray, List.getElem?_cons_succ, List.getElem?_cons_zero]; try exact rfl) (by simp only [List.filterMap_cons, List.filterMap_nil, List.getElem?_toArray, List.getElem?_cons_succ, List.getElem?_cons_zero]; try exact rfl) (by decide) ?_)
    (refine sg_m ?_; (repeat (first | (refine ql_plain rfl rfl ?_; intro K hK; go_big_quiet_op; go_big_quiet_on) | (refine ql_nilCheck rfl rfl rfl ?_; intro K hK; simp only [Act.put, List.setIfInBounds_toArray, List.set_cons_succ, List.set_cons_zero]; go_big_quiet_on) | (refine ql_call (fun _ => event_any _ _ _ _ _) rfl rfl Try.func23 rfl (by kernel_rfl) rfl ?_; intro K hK; simp only [Act.put, List.setIfInBounds_toArray, List.set_cons_succ, List.set_cons_zero]; go_big_quiet_on) | (refine ql_skip rfl ?_; intro K hK; simp only [Act.put, List.setIfInBounds_toArray, List.set_cons_succ, List.set_cons_zero]; go_big_quiet_on))); refine ql_nil ?_)
    (refine sg_call (f := 20) (FeedF q2) (FeedS q2) rfl (FeedF.shp q2) (FeedF.stable q2) (fun d => f2.out _ _ _ ((hr1.out.turn (b := (w.ext d1).heap.size) (by (repeat (first | exact Like.refl _ _ | refine Like.ext ?_ _ | refine Like.alloc ?_ _ | refine Like.swap ?_ (by simp <;> omega) _ _))) (heap_some_ext (heap_alloc_new (w.ext d1) _) (by (repeat (first | exact Ext.refl _ | assumption | refine Ext.alloc ?_ _ | refine Ext.ext ?_ _ | refine Ext.drew ?_))))).ext (Ext.ext (Ext.refl _) d)).rep) (by simp only [List.getElem?_toArray, List.getElem?_cons_succ, List.getElem?_cons_zero]; try exact rfl) rfl rfl Try.func20 rfl (by kernel_rfl) rfl ?_; intro u hu hS K hK; obtain ⟨a2, c2, va2, vn2, vc2, rfl⟩ := hS; simp only [Act.put, List.setIfInBounds_toArray, List.set_cons_succ, List.set_cons_zero]; refine hK _ ?_; clear hK K)
    (refine sg_last ?_; (repeat (first | (refine ql_plain rfl rfl ?_; intro K hK; go_big_quiet_op; go_big_quiet_on) | (refine ql_nilCheck rfl rfl rfl ?_; intro K hK; simp only [Act.put, List.setIfInBounds_toArray, List.set_cons_succ, List.set_cons_zero]; go_big_quiet_on) | fail | (refine ql_skip rfl ?_; intro K hK; simp only [Act.put, List.setIfInBounds_toArray, List.set_cons_succ, List.set_cons_zero]; go_big_quiet_on))); refine ql_nil ?_; (repeat (first | (refine pl_plain rfl rfl ?_; intro K hK; go_big_quiet_op; go_big_quiet_on) | (refine pl_nilCheck rfl rfl rfl ?_; intro K hK; simp only [Act.put, List.setIfInBounds_toArray, List.set_cons_succ, List.set_cons_zero]; go_big_quiet_on))); refine pl_nil ?_)
    rintro w1 he1 ⟨_, hf2⟩
    obtain ⟨d3, rfl⟩ := he1
    have hr2 := Lib.hid (FeedF.use hf2).1
    clear hf2 hr1
    go_wp2; refine only_normal ?_
    go_wp2_with fail
    (refine wp_region_segs (fun i => if i = 3 then some (FeedF q3, FeedS q3) else none) [([0, 1, 2], .m, 3)] [4, 5] [6, 7] [8, 9, 10] (by kernel_rfl) (by kernel_rfl) (by simp only [List.map_cons, List.map_nil, List.filterMap_cons, List.filterMap_nil, List.getElem?_toArray, List.getElem?_cons_succ, List.getElem?_cons_zero]; try exact rfl) (by simp only [List.filterMap_cons, List.filterMap_nil, List.getElem?_toArray, List.getElem?_cons_succ, List.getElem?_cons_zero]; try exact rfl) (by simp only [List.filterMap_cons, List.filterMap_nil, List.getElem?_toArray, List.getElem?_cons_succ, List.getElem?_cons_zero]; try exact rfl) (by simp only [List.filterMap_cons, List.filterMap_nil, List.getElem?_toArray, List.getElem?_cons_succ, List.getElem?_cons_zero]; try exact rfl) (by decide) ?_)
    (refine sg_m ?_; (repeat (first | (refine ql_plain rfl rfl ?_; intro K hK; go_big_quiet_op; go_big_quiet_on) | (refine ql_nilCheck rfl rfl rfl ?_; intro K hK; simp only [Act.put, List.setIfInBounds_toArray, List.set_cons_succ, List.set_cons_zero]; go_big_quiet_on) | (refine ql_call (fun _ => event_any _ _ _ _ _) rfl rfl Try.func23 rfl (by kernel_rfl) rfl ?_; intro K hK; simp only [Act.put, List.setIfInBounds_toArray, List.set_cons_succ, List.set_cons_zero]; go_big_quiet_on) | (refine ql_skip rfl ?_; intro K hK; simp only [Act.put, List.setIfInBounds_toArray, List.set_cons_succ, List.set_cons_zero]; go_big_quiet_on))); refine ql_nil ?_)
    (refine sg_call (f := 20) (FeedF q3) (FeedS q3) rfl (FeedF.shp q3) (FeedF.stable q3) (fun d => f3.out _ _ _ ((hr2.out.turn (b := (w.ext d1).heap.size) (by (repeat (first | exact Like.refl _ _ | refine Like.ext ?_ _ | refine Like.alloc ?_ _ | refine Like.swap ?_ (by simp <;> omega) _ _))) (heap_some_ext (heap_alloc_new (w.ext d1) _) (by (repeat (first | exact Ext.refl _ | assumption | refine Ext.alloc ?_ _ | refine Ext.ext ?_ _ | refine Ext.drew ?_))))).ext (Ext.ext (Ext.refl _) d)).rep) (by simp only [List.getElem?_toArray, List.getElem?_cons_succ, List.getElem?_cons_zero]; try exact rfl) rfl rfl Try.func20 rfl (by kernel_rfl) rfl ?_; intro u hu hS K hK; obtain ⟨a3, c3, va3, vn3, vc3, rfl⟩ := hS; simp only [Act.put, List.setIfInBounds_toArray, List.set_cons_succ, List.set_cons_zero]; refine hK _ ?_; clear hK K)
    (refine sg_last ?_; (repeat (first | (refine ql_plain rfl rfl ?_; intro K hK; go_big_quiet_op; go_big_quiet_on) | (refine ql_nilCheck rfl rfl rfl ?_; intro K hK; simp only [Act.put, List.setIfInBounds_toArray, List.set_cons_succ, List.set_cons_zero]; go_big_quiet_on) | fail | (refine ql_skip rfl ?_; intro K hK; simp only [Act.put, List.setIfInBounds_toArray, List.set_cons_succ, List.set_cons_zero]; go_big_quiet_on))); refine ql_nil ?_; (repeat (first | (refine pl_plain rfl rfl ?_; intro K hK; go_big_quiet_op; go_big_quiet_on) | (refine pl_nilCheck rfl rfl rfl ?_; intro K hK; simp only [Act.put, List.setIfInBounds_toArray, List.set_cons_succ, List.set_cons_zero]; go_big_quiet_on))); refine pl_nil ?_)
    rintro w1 he1 ⟨_, hf3⟩
    obtain ⟨d4, rfl⟩ := he1
    have hr3 := Lib.hid (FeedF.use hf3).1
    clear hf3 hr2
    go_wp2; refine only_normal ?_
    go_wp2_with fail
    refine (f4.out _ _ _ (hr3.out.turn (b := (w.ext d1).heap.size) (by (repeat (first | exact Like.refl _ _ | refine Like.ext ?_ _ | refine Like.alloc ?_ _ | refine Like.swap ?_ (by simp <;> omega) _ _))) (heap_some_ext (heap_alloc_new (w.ext d1) _) (by (repeat (first | exact Ext.refl _ | assumption | refine Ext.alloc ?_ _ | refine Ext.ext ?_ _ | refine Ext.drew ?_))))).rep).mono ?_
    rintro x W ⟨a5, c5, v, rfl, hx, _, hg⟩
    obtain ⟨ag, cg, rfl⟩ := hg.none
    have hE : Hid (Ext w W) := Ext.trans (by (repeat (first | exact Ext.refl _ | assumption | refine Ext.alloc ?_ _ | refine Ext.ext ?_ _ | refine Ext.drew ?_))) hx
    clear hx hr3
    go_wp2_with fail
    refine (awake_any _).mono ?_
    rintro x w1 ⟨rfl, d5, rfl⟩
    go_wp2
    go_ret
    refine ⟨rfl, Ext.trans hE.out ?_⟩
    (repeat (first | exact Ext.refl _ | assumption | refine Ext.alloc ?_ _ | refine Ext.ext ?_ _ | refine Ext.drew ?_))
theorem tdiv_neg4 (x : Int) : (-x).tdiv 4 = -(x.tdiv 4) := Int.neg_tdiv ..
theorem long_law (x y m u : Int) (hx : -128 ≤ x ∧ x ≤ 127) (hy : -128 ≤ y ∧ y ≤ 127) (hm : 0 ≤ m ∧ m ≤ 65535) (hu : 0 ≤ u ∧ u ≤ 65535) (w : World) :
    Calls Try.prog 9 #[.int .i8 x, .int .i8 y, .int .u16 m, .int .u16 u] w fun e w' => e = .returned (.bool true) ∧ Ext w w' := by
  have bX := tdiv4_bd x hx
  have bY := tdiv4_bd y hy
  have hp := long_plain (x.tdiv 4) (y.tdiv 4) (m % 600) (m % 600 + u % 600) (by omega) (by omega) (by omega) (by omega)
  have hdist : dist ⟨x.tdiv 4, y.tdiv 4, m % 600⟩ ⟨0, 0, 0⟩ = mx (mx (mx (x.tdiv 4) (-(x.tdiv 4))) (y.tdiv 4)) (-(y.tdiv 4)) := by simp [dist]
  rw [hdist] at hp
  refine long_walk x y m u _ _ _ _ _ _ _ _ _ hx hy hm hu rfl rfl rfl rfl rfl rfl rfl rfl rfl ?_ w
  simp only at hp
  split at hp
  · exact .inl ⟨by assumption, hp.1, hp.2.1, hp.2.2⟩
  · split at hp
    · exact .inr (.inl ⟨by omega, by simp; omega, hp.1, hp.2.1, hp.2.2⟩)
    · split at hp
      · exact .inr (.inr (.inl ⟨by omega, by simp; omega, by assumption, hp.1, hp.2.1, hp.2.2⟩))
      · exact .inr (.inr (.inr ⟨by omega, by simp; omega, by omega, hp.1, hp.2.1, hp.2.2⟩))
end Go.Proofs.Ytendgmnbnnkpnaa.G
