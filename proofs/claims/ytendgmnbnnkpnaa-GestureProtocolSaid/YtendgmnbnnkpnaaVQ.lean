/- awake returns true. GestureNew: New of the program and of the reference agree; the chapter's example holds. What a call leaves that turns nothing old, in the claims' form. Bounds of the integers of a row. -/
import Derived.Test.YtendgmnbnnkpnaaUP
import Derived.Test.YtendgmnbnnkpnaaVA
import Derived.Test.YtendgmnbnnkpnaaUQ
import Derived.Test.YtendgmnbnnkpnaaUA
import Derived.Test.YtendgmnbnnkpnaaRows
import Derived.ProofKit
import Derived.OpenShut
import Derived.WalkKit
import Derived.WalkSpells
import Derived.WalkLawsBesides
import Derived.Deep.QuietTactic
import Derived.BigQuiet
import Derived.BigRegion
import Derived.Lib.Hide
import Derived.Deep.RegionWith
set_option linter.unusedSimpArgs false
set_option linter.unusedVariables false
namespace Go.Proofs.Ytendgmnbnnkpnaa.G
open Go.RowKit
theorem OwnG.len {w : World} {B : Nat} {va : Option Addr} {vn vc : Nat} {gs : List Ges} (h : OwnG w B (.slice va vn vc) gs) : vn = gs.length := by
  rcases h.1.2 with ⟨h2, h3⟩ | ⟨g, cap, cur, hv, _⟩
  · simp only [Value.slice.injEq] at h2; rw [h2.2.1, h3]
  · simp only [Value.slice.injEq] at hv; exact hv.2.1
set_option maxHeartbeats 400000 in
theorem event_any (k x y t : Int) (w : World) :
    Calls Try.prog 23 #[.int .i64 k, .int .i64 x, .int .i64 y, .int .i64 t] w fun e w' => e = .returned (.agg #[.int .i64 k, .int .i64 1, .int .i64 x, .int .i64 y, .int .i64 t, .int .i64 0]) ∧ Ext w w' := by
  go_enter Try.func23, Try.ntmps23
  go_wp2
  (refine bodyPost_ret (v := ?_) (by simp [results, Try.results23, go_sem]; rfl) rfl ?_)
  refine ⟨rfl, ?_⟩
  (repeat (first | exact Ext.refl _ | assumption | refine Ext.alloc ?_ _ | refine Ext.ext ?_ _ | refine Ext.drew ?_))
theorem win_x (r : Rec) (h : ROk r) (a : Option Addr) (cap : Nat) (w : World) (hr : RepT w a r.Ts) :
    Calls Try.prog 22 #[.agg #[.int .i64 (r).Kind, .int .i64 (r).Node, .int .i64 (r).State, .int .i64 (r).Count, .slice a (r).Ts.length cap, .int .i64 (r).L.X, .int .i64 (r).L.Y, .int .i64 (r).L.T]] w fun x w' =>
      ∃ a' c' v, x = .returned (.tuple #[.agg #[.int .i64 ((win r).1).Kind, .int .i64 ((win r).1).Node, .int .i64 ((win r).1).State, .int .i64 ((win r).1).Count, .slice a' ((win r).1).Ts.length c', .int .i64 ((win r).1).L.X, .int .i64 ((win r).1).L.Y, .int .i64 ((win r).1).L.T], v]) ∧ Ext w w' ∧ TsO w' a' c' (win r).1.Ts ∧ RepG w' v (win r).2 := win_o r h a cap w hr
theorem RepG.one {w : World} {v : Value} {g : Ges} (h : RepG w v [g]) : ∃ b off c, v = .slice (some ⟨b, off, none⟩) 1 c ∧ GesAt w b off g := by
  rcases h with ⟨h, _⟩ | ⟨b, off, cg, rfl, h⟩
  · cases h
  · exact ⟨b, off, cg, rfl, by simpa using h 0 _ rfl⟩
theorem RepG.none {w : World} {v : Value} (h : RepG w v []) : ∃ a c, v = .slice a 0 c := by
  rcases h with ⟨_, h⟩ | ⟨b, off, cg, rfl, h⟩
  · exact h
  · exact ⟨_, _, rfl⟩
theorem newR_rep (w : World) (k n : Int) (a : Option Addr) : RepT w a (newR k n).Ts := .inl rfl
set_option maxHeartbeats 1000000 in
theorem awake_any (w : World) : Calls Try.prog 16 #[] w fun e w' => e = .returned (.bool true) ∧ Ext w w' := by
  have s0 : Sound (newR 1 3) := newR_sound rfl rfl
  obtain ⟨q1, h1⟩ : ∃ q, q = feed (newR 1 3) ⟨1, 1, 5, 5, 0, 0⟩ := ⟨_, rfl⟩
  have s1 := s0.feed ⟨1, 1, 5, 5, 0, 0⟩
  rw [← h1] at s1
  obtain ⟨q2, h2⟩ : ∃ q, q = feed q1.1 ⟨3, 1, 6, 5, 100, 0⟩ := ⟨_, rfl⟩
  have s2 := s1.feed ⟨3, 1, 6, 5, 100, 0⟩
  rw [← h2] at s2
  have e1 : q1 = (⟨1, 3, 1, 0, [⟨1, ⟨5, 5, 0⟩, [⟨5, 5, 0⟩]⟩], .zero⟩, 0, []) := by rw [h1]; rfl
  have e2 : q2 = (⟨1, 3, 2, 0, [], ⟨6, 5, 100⟩⟩, 0, []) := by rw [h2, e1]; rfl
  have e3 : (win q2.1).2 = [⟨1, 3, 1, 6, 5, 0, 0, 1000, 0, 0⟩] := by rw [e2]; rfl
  have f1 := Lib.hid fun w a c h => feed_mk (newR 1 3) ⟨1, 1, 5, 5, 0, 0⟩ s0.ok a c w h
  have f2 := Lib.hid fun w a c h => feed_mk q1.1 ⟨3, 1, 6, 5, 100, 0⟩ s1.ok a c w h
  have f3 := Lib.hid fun w a c h => win_x q2.1 s2.ok a c w h
  rw [← h1] at f1
  rw [← h2] at f2
  rw [e3] at f3
  have b1 : (q2.1.State == 2) = true := by rw [e2]; rfl
  have b2 : (q2.2.1 == 0) = true := by rw [e2]; rfl
  have b3 : q2.2.2 = [] := by rw [e2]
  replace b3 := Lib.hid b3
  clear h1 h2 e1 e2 e3 s0 s1 s2
  go_enter Try.func16, Try.ntmps16
  go_wp2_with fail
  refine (New_ok 1 3 _ rfl rfl).mono ?_
  rintro x w1 ⟨rfl, d1, rfl⟩
  go_wp2_with fail
  (refine wp_region_segs (fun i => if i = 2 then some (FeedF q1, FeedS q1) else none) [([0, 1], .m, 2)] [3, 4] [5, 6] [7] (by kernel_rfl) (by kernel_rfl) (by simp only [List.map_cons, List.map_nil, List.filterMap_cons, List.filterMap_nil, List.getElem?_toArray, List.getElem?_cons_succ, List.getElem?_cons_zero]; try exact rfl) (by simp only [List.filterMap_cons, List.filterMap_nil, List.getElem?_toArray, List.getElem?_cons_succ, List.getElem?_cons_zero]; try exact rfl) (by simp only [List.filterMap_cons, List.filterMap_nil, List.getElem?_toArray, List.getElem?_cons_succ, List.getElem?_cons_zero]; try exact rfl) (by simp only [List.filterMap_cons, List.filterMap_nil, List.getElem?_toArray, List.getElem?_cons_succ, List.getElem?_cons_zero]; try exact rfl) (by decide) ?_)
  (refine sg_m ?_; (repeat (first | (refine ql_plain rfl rfl ?_; intro K hK; go_big_quiet_op; go_big_quiet_on) | (refine ql_nilCheck rfl rfl rfl ?_; intro K hK; simp only [Act.put, List.setIfInBounds_toArray, List.set_cons_succ, List.set_cons_zero]; go_big_quiet_on) | (refine ql_call (fun _ => event_any _ _ _ _ _) rfl rfl Try.func23 rfl (by kernel_rfl) rfl ?_; intro K hK; simp only [Act.put, List.setIfInBounds_toArray, List.set_cons_succ, List.set_cons_zero]; go_big_quiet_on) | (refine ql_skip rfl ?_; intro K hK; simp only [Act.put, List.setIfInBounds_toArray, List.set_cons_succ, List.set_cons_zero]; go_big_quiet_on))); refine ql_nil ?_)
  (refine sg_call (f := 20) (FeedF q1) (FeedS q1) rfl (FeedF.shp q1) (FeedF.stable q1) (fun d => f1.out _ _ _ (newR_rep _ _ _ _)) (by simp only [List.getElem?_toArray, List.getElem?_cons_succ, List.getElem?_cons_zero]; try exact rfl) rfl rfl Try.func20 rfl (by kernel_rfl) rfl ?_; intro u hu hS K hK; obtain ⟨a1, c1, va1, vn1, vc1, rfl⟩ := hS; simp only [Act.put, List.setIfInBounds_toArray, List.set_cons_succ, List.set_cons_zero]; refine hK _ ?_; clear hK K)
  (refine sg_last ?_; (repeat (first | (refine ql_plain rfl rfl ?_; intro K hK; go_big_quiet_op; go_big_quiet_on) | (refine ql_nilCheck rfl rfl rfl ?_; intro K hK; simp only [Act.put, List.setIfInBounds_toArray, List.set_cons_succ, List.set_cons_zero]; go_big_quiet_on) | fail | (refine ql_skip rfl ?_; intro K hK; simp only [Act.put, List.setIfInBounds_toArray, List.set_cons_succ, List.set_cons_zero]; go_big_quiet_on))); refine ql_nil ?_; (repeat (first | (refine pl_plain rfl rfl ?_; intro K hK; go_big_quiet_op; go_big_quiet_on) | (refine pl_nilCheck rfl rfl rfl ?_; intro K hK; simp only [Act.put, List.setIfInBounds_toArray, List.set_cons_succ, List.set_cons_zero]; go_big_quiet_on))); refine pl_nil ?_)
  rintro w1 he1 ⟨_, hf1⟩
  obtain ⟨d2, rfl⟩ := he1
  have hr1 := Lib.hid (FeedF.use hf1).1
  clear hf1
  go_wp2; refine only_normal ?_
  go_wp2_with fail
  (refine wp_region_segs (fun i => if i = 2 then some (FeedF q2, FeedS q2) else none) [([0, 1], .m, 2)] [3, 4] [5, 6] [7, 8, 9] (by kernel_rfl) (by kernel_rfl) (by simp only [List.map_cons, List.map_nil, List.filterMap_cons, List.filterMap_nil, List.getElem?_toArray, List.getElem?_cons_succ, List.getElem?_cons_zero]; try exact rfl) (by simp only [List.filterMap_cons, List.filterMap_nil, List.getElem?_toArray, List.getElem?_cons_succ, List.getElem?_cons_zero]; try exact rfl) (by simp only [List.filterMap_cons, List.filterMap_nil, List.getElem?_toArray, List.getElem?_cons_succ, List.getElem?_cons_zero]; try exact rfl) (by simp only [List.filterMap_cons, List.filterMap_nil, List.getElem?_toArray, List.getElem?_cons_succ, List.getElem?_cons_zero]; try exact rfl) (by decide) ?_)
  (refine sg_m ?_; (repeat (first | (refine ql_plain rfl rfl ?_; intro K hK; go_big_quiet_op; go_big_quiet_on) | (refine ql_nilCheck rfl rfl rfl ?_; intro K hK; simp only [Act.put, List.setIfInBounds_toArray, List.set_cons_succ, List.set_cons_zero]; go_big_quiet_on) | (refine ql_call (fun _ => event_any _ _ _ _ _) rfl rfl Try.func23 rfl (by kernel_rfl) rfl ?_; intro K hK; simp only [Act.put, List.setIfInBounds_toArray, List.set_cons_succ, List.set_cons_zero]; go_big_quiet_on) | (refine ql_skip rfl ?_; intro K hK; simp only [Act.put, List.setIfInBounds_toArray, List.set_cons_succ, List.set_cons_zero]; go_big_quiet_on))); refine ql_nil ?_)
  (refine sg_call (f := 20) (FeedF q2) (FeedS q2) rfl (FeedF.shp q2) (FeedF.stable q2) (fun d => f2.out _ _ _ ((hr1.out.turn (b := (w.ext d1).heap.size) (by (repeat (first | exact Like.refl _ _ | refine Like.ext ?_ _ | refine Like.alloc ?_ _ | refine Like.swap ?_ (by simp <;> omega) _ _))) (heap_some_ext (heap_alloc_new (w.ext d1) _) (by (repeat (first | exact Ext.refl _ | assumption | refine Ext.alloc ?_ _ | refine Ext.ext ?_ _ | refine Ext.drew ?_))))).ext (Ext.ext (Ext.refl _) d)).rep) (by simp only [List.getElem?_toArray, List.getElem?_cons_succ, List.getElem?_cons_zero]; try exact rfl) rfl rfl Try.func20 rfl (by kernel_rfl) rfl ?_; intro u hu hS K hK; obtain ⟨a2, c2, va2, vn2, vc2, rfl⟩ := hS; simp only [Act.put, List.setIfInBounds_toArray, List.set_cons_succ, List.set_cons_zero]; refine hK _ ?_; clear hK K)
  (refine sg_last ?_; (repeat (first | (refine ql_plain rfl rfl ?_; intro K hK; go_big_quiet_op; go_big_quiet_on) | (refine ql_nilCheck rfl rfl rfl ?_; intro K hK; simp only [Act.put, List.setIfInBounds_toArray, List.set_cons_succ, List.set_cons_zero]; go_big_quiet_on) | fail | (refine ql_skip rfl ?_; intro K hK; simp only [Act.put, List.setIfInBounds_toArray, List.set_cons_succ, List.set_cons_zero]; go_big_quiet_on))); refine ql_nil ?_; (repeat (first | (refine pl_plain rfl rfl ?_; intro K hK; go_big_quiet_op; go_big_quiet_on) | (refine pl_nilCheck rfl rfl rfl ?_; intro K hK; simp only [Act.put, List.setIfInBounds_toArray, List.set_cons_succ, List.set_cons_zero]; go_big_quiet_on))); refine pl_nil ?_)
  rintro w1 he1 ⟨_, hf2⟩
  obtain ⟨d3, rfl⟩ := he1
  have hr2 := Lib.hid (FeedF.use hf2).1
  have hv2 := OwnG.len (FeedF.use hf2).2
  rw [b3.out] at hv2
  simp only [List.length_nil] at hv2
  subst hv2
  clear hf2 hr1
  go_wp2; refine only_normal ?_
  go_wp2_with fail
  refine (f3.out _ _ _ (hr2.out.turn (b := (w.ext d1).heap.size) (by (repeat (first | exact Like.refl _ _ | refine Like.ext ?_ _ | refine Like.alloc ?_ _ | refine Like.swap ?_ (by simp <;> omega) _ _))) (heap_some_ext (heap_alloc_new (w.ext d1) _) (by (repeat (first | exact Ext.refl _ | assumption | refine Ext.alloc ?_ _ | refine Ext.ext ?_ _ | refine Ext.drew ?_))))).rep).mono ?_
  rintro x W ⟨a3, c3, v, rfl, hx, _, hg⟩
  obtain ⟨b, off, cg, rfl, hcg⟩ := hg.one
  have hE : Hid (Ext w W) := Ext.trans (by (repeat (first | exact Ext.refl _ | assumption | refine Ext.alloc ?_ _ | refine Ext.ext ?_ _ | refine Ext.drew ?_))) hx
  clear hx hr2
  have p1 : W.cell? ⟨b, off + 1, none⟩ = some (.int .i64 3) := hcg 1 _ rfl
  have p2 : W.cell? ⟨b, off + 2, none⟩ = some (.int .i64 1) := hcg 2 _ rfl
  have p3 : W.cell? ⟨b, off + 3, none⟩ = some (.int .i64 6) := hcg 3 _ rfl
  have hb := World.block_lt_of_cell? W _ p1
  simp only at hb
  clear hcg
  go_wp2
  go_ret
  refine ⟨rfl, Ext.trans hE.out ?_⟩
  (repeat (first | exact Ext.refl _ | assumption | refine Ext.alloc ?_ _ | refine Ext.ext ?_ _ | refine Ext.drew ?_))
end Go.Proofs.Ytendgmnbnnkpnaa.G
namespace Go.Proofs.Ytendgmnbnnkpnaa.G
open Go.RowKit
theorem refNew_ok (kind node : Int) (w : World) (h1 : btw kind 1 8 = true) (h3 : btw node 1 1099511627776 = true) :
    Calls Try.prog 14 #[.int .i64 kind, .int .i64 node] w fun e w' => e = .returned (.tuple #[.agg #[.int .i64 kind, .int .i64 node, .int .i64 0, .int .i64 0, .slice none 0 0, .int .i64 0, .int .i64 0, .int .i64 0], .int .i64 0]) ∧ Ext w w' := by
  simp only [btw, decide_eq_true_eq] at h1 h3
  obtain ⟨h1, h2⟩ := h1
  obtain ⟨h3, h4⟩ := h3
  go_enter Try.func14, Try.ntmps14
  go_wp2
  (refine bodyPost_ret (v := ?_) (by simp [results, Try.results14, go_sem]; rfl) rfl ?_)
  refine ⟨rfl, ?_⟩
  (repeat (first | exact Ext.refl _ | assumption | refine Ext.alloc ?_ _ | refine Ext.ext ?_ _ | refine Ext.drew ?_))
theorem refNew_kind (kind node : Int) (w : World) (h1 : btw kind 1 8 = false) :
    Calls Try.prog 14 #[.int .i64 kind, .int .i64 node] w fun e w' => e = .returned (.tuple #[.agg #[.int .i64 0, .int .i64 0, .int .i64 0, .int .i64 0, .slice none 0 0, .int .i64 0, .int .i64 0, .int .i64 0], .int .i64 9]) ∧ Ext w w' := by
  have h : kind < 1 ∨ ¬ kind < 1 ∧ 8 < kind := by simp [btw] at h1; omega
  clear h1
  rcases h with h | ⟨h, h2⟩
  all_goals
    go_enter Try.func14, Try.ntmps14
    go_wp2
    (refine bodyPost_ret (v := ?_) (by simp [results, Try.results14, go_sem]; rfl) rfl ?_)
    refine ⟨rfl, ?_⟩
    (repeat (first | exact Ext.refl _ | assumption | refine Ext.alloc ?_ _ | refine Ext.ext ?_ _ | refine Ext.drew ?_))
theorem refNew_range (kind node : Int) (w : World) (h1 : btw kind 1 8 = true) (h3 : btw node 1 1099511627776 = false) :
    Calls Try.prog 14 #[.int .i64 kind, .int .i64 node] w fun e w' => e = .returned (.tuple #[.agg #[.int .i64 0, .int .i64 0, .int .i64 0, .int .i64 0, .slice none 0 0, .int .i64 0, .int .i64 0, .int .i64 0], .int .i64 1]) ∧ Ext w w' := by
  simp only [btw, decide_eq_true_eq] at h1
  obtain ⟨h1, h2⟩ := h1
  have h : node < 1 ∨ ¬ node < 1 ∧ 1099511627776 < node := by simp [btw] at h3; omega
  clear h3
  rcases h with h | ⟨h, h4⟩
  all_goals
    go_enter Try.func14, Try.ntmps14
    go_wp2
    (refine bodyPost_ret (v := ?_) (by simp [results, Try.results14, go_sem]; rfl) rfl ?_)
    refine ⟨rfl, ?_⟩
    (repeat (first | exact Ext.refl _ | assumption | refine Ext.alloc ?_ _ | refine Ext.ext ?_ _ | refine Ext.drew ?_))
theorem equal0 (k n s c x y t : Int) (w : World) : Calls Try.prog 15 #[.agg #[.int .i64 k, .int .i64 n, .int .i64 s, .int .i64 c, .slice none 0 0, .int .i64 x, .int .i64 y, .int .i64 t], .agg #[.int .i64 k, .int .i64 n, .int .i64 s, .int .i64 c, .slice none 0 0, .int .i64 x, .int .i64 y, .int .i64 t]] w fun e w' => e = .returned (.bool true) ∧ Ext w w' := by
  go_enter Try.func15, Try.ntmps15
  go_wp2
  refine wp_loop_rounds 1 ?_
  rw [rounds_succ]
  go_wp2
  go_ret
  refine ⟨rfl, ?_⟩
  (repeat (first | exact Ext.refl _ | assumption | refine Ext.alloc ?_ _ | refine Ext.ext ?_ _ | refine Ext.drew ?_))
theorem new_law (a0 a1 : Int) (w : World) : Calls Try.prog 3 #[.int .i64 a0, .int .i64 a1] w fun e w' => e = .returned (.bool true) ∧ Ext w w' := by
  have go : ∀ (k n er : Int), (∀ w, Calls Try.prog 13 #[.int .i64 a0, .int .i64 a1] w fun e w' => e = .returned (.tuple #[.agg #[.int .i64 k, .int .i64 n, .int .i64 0, .int .i64 0, .slice none 0 0, .int .i64 0, .int .i64 0, .int .i64 0], .int .i64 er]) ∧ Ext w w') →
      (∀ w, Calls Try.prog 14 #[.int .i64 a0, .int .i64 a1] w fun e w' => e = .returned (.tuple #[.agg #[.int .i64 k, .int .i64 n, .int .i64 0, .int .i64 0, .slice none 0 0, .int .i64 0, .int .i64 0, .int .i64 0], .int .i64 er]) ∧ Ext w w') →
      Calls Try.prog 3 #[.int .i64 a0, .int .i64 a1] w fun e w' => e = .returned (.bool true) ∧ Ext w w' := by
    intro k n er h1 h2
    replace h1 := Lib.hid h1
    replace h2 := Lib.hid h2
    go_enter Try.func3, Try.ntmps3
    go_wp2_with fail
    refine (h1.out _).mono ?_
    rintro x w1 ⟨rfl, d1, rfl⟩
    go_wp2_with fail
    refine (h2.out _).mono ?_
    rintro x w1 ⟨rfl, d2, rfl⟩
    go_wp2_with fail
    refine (equal0 _ _ _ _ _ _ _ _).mono ?_
    rintro x w1 ⟨rfl, d3, rfl⟩
    go_wp2_with fail
    refine (awake_any _).mono ?_
    rintro x w1 ⟨rfl, d4, rfl⟩
    go_wp2
    go_ret
    refine ⟨rfl, ?_⟩
    (repeat (first | exact Ext.refl _ | assumption | refine Ext.alloc ?_ _ | refine Ext.ext ?_ _ | refine Ext.drew ?_))
  cases hk : btw a0 1 8 with
  | false => exact go _ _ _ (fun w => New_kind a0 a1 w hk) (fun w => refNew_kind a0 a1 w hk)
  | true =>
    cases hn : btw a1 1 1099511627776 with
    | false => exact go _ _ _ (fun w => New_range a0 a1 w hk hn) (fun w => refNew_range a0 a1 w hk hn)
    | true => exact go _ _ _ (fun w => New_ok a0 a1 w hk hn) (fun w => refNew_ok a0 a1 w hk hn)
end Go.Proofs.Ytendgmnbnnkpnaa.G
namespace Go
open Go.ChangeShapes Go.WideShapes Go.ChangeAt Go.RowKit
theorem Ext.kept {W W' : World} (h : Ext W W') (may : MemPlace → Prop) : W.keptBut W' may := by
  have hb := h.below
  refine ⟨hb.os, hb.output, fun i hi => ?_⟩
  rw [hb.block i hi]
  cases W.heap[i]? with
  | none => rfl
  | some o =>
    cases o with
    | cells c t fr => exact ⟨rfl, rfl, rfl, fun _ _ => rfl⟩
    | map es clock => exact .inr ⟨rfl, rfl⟩
    | _ => rfl
theorem post_of_ext {H : Type} {enc : TypeId × Value → H} {P : Program} {f : Func} {s : ChangeSpec} {apart fresh handsOn again : Bool} {W W' : World} {args : Array Value} {v : Value} {ds gs : List (DataW H)} {before pa pv : List MemPlace}
    (hW : DataW.Whole enc P f.params.toList s.vars apart W args.toList ds gs before)
    (hres : ∀ (b : Nat) (sp : Nat → Bool) (hd : Bool), DataW.TrodAll enc P W' b sp hd f.resultTypes.toList (v.resultList f.resultTypes.size) (s.fn H (ds ++ gs)).results [])
    (hargs : ∀ sp : Nat → Bool, (∀ p ∈ before, sp p.block = true) → DataW.TrodAll enc P W' 0 sp true f.params.toList args.toList (s.fn H (ds ++ gs)).args pa)
    (hvars : ∀ sp : Nat → Bool, (∀ p ∈ before, sp p.block = true) → DataW.TrodVars enc P W' sp s.vars (s.fn H (ds ++ gs)).vars pv)
    (hps : before = pa ++ pv) (he : Ext W W')
    (hok : ∀ (j : Nat) (t : TypeId) (r : Value), f.resultTypes[j]? = some t → (v.resultList f.resultTypes.size)[j]? = some r → Value.okWide P W' .any 0 t r) :
    s.post enc P f apart fresh handsOn again W args v W' := by
  have hold : ∀ p ∈ before, (fun b => decide (b < W.heap.size)) p.block = true := fun p hp => by simpa using hW.lt p hp
  have hlt := hW.lt
  refine ⟨ds, gs, before, [], pa, pv, hW, hres _ _ _, hargs _ hold, hvars _ hold, World.keptBut_mono (fun p hp => ⟨hp, ?_⟩) (he.kept (· ∈ before)), fun _ => ?_⟩
  · rw [hps, List.mem_append] at hp
    exact Or.inr hp
  · obtain ⟨_, _, _, _, _, hz, hn⟩ := hW
    refine ⟨hok, _, _, ([] ++ pa) ++ pv, ⟨[] ++ pa, pv, trodAll_append (hargs _ (fun _ _ => rfl)) (hres _ _ _), hvars _ (fun _ _ => rfl), rfl, ?_, ?_⟩, ?_⟩
    · intro b off hp
      have hp' : MemPlace.cell b off ∈ before := by rw [hps]; simpa using hp
      rw [World.frozen?_of_block (w := W) (he.below.block _ (hlt _ hp'))]
      exact hz b off hp'
    · intro ha
      have := hn ha
      rw [hps] at this
      simpa using this
    · intro p hp _
      rw [hps]
      simpa using hp
end Go
namespace Go.Proofs.Ytendgmnbnnkpnaa.G
theorem ownB : ownKnob Try.prog.godebug = none := by kernel_rfl
end Go.Proofs.Ytendgmnbnnkpnaa.G
namespace Go.Proofs.Ytendgmnbnnkpnaa.G
theorem bd_i8 {x : Int} (h : (Lit.int .i8 x).wf = true) : -128 ≤ x ∧ x ≤ 127 := by
  simp [Lit.wf, IntKind.min, IntKind.max, IntKind.signed, IntKind.bits] at h
  omega
theorem bd_u8 {x : Int} (h : (Lit.int .u8 x).wf = true) : 0 ≤ x ∧ x ≤ 255 := by
  simp [Lit.wf, IntKind.min, IntKind.max, IntKind.signed, IntKind.bits] at h
  omega
theorem bd_u16 {x : Int} (h : (Lit.int .u16 x).wf = true) : 0 ≤ x ∧ x ≤ 65535 := by
  simp [Lit.wf, IntKind.min, IntKind.max, IntKind.signed, IntKind.bits] at h
  omega
theorem bd_i64 {x : Int} (h : (Lit.int .i64 x).wf = true) : -9223372036854775808 ≤ x ∧ x ≤ 9223372036854775807 := by
  simp [Lit.wf, IntKind.min, IntKind.max, IntKind.signed, IntKind.bits] at h
  omega
end Go.Proofs.Ytendgmnbnnkpnaa.G
