/- closed. -/
import Derived.Test.YtcnmljpabmgieaaAr5
import Derived.WalkKit
import Derived.WalkSpells
import Derived.WalkLawsBesides
import Derived.Deep.QuietTactic
import Derived.BigQuiet
import Derived.BigRegion
import Derived.Lib.Hide
import Derived.Deep.RegionWith
set_option linter.unusedSimpArgs false
set_option linter.unusedVariables false
namespace Go.Proofs.Ytcnmljpabmgieaa.R
open Go.RowKit
set_option maxRecDepth 100000 in
set_option maxHeartbeats 4000000 in
theorem closed_ok {B : Nat} (a : Arn) (la ha : Option Addr) (lc hc : Nat) (w : World) (hl : a.Left.length ≤ 1000000) (h1 : OI B w la lc a.Left) (h2 : OI B w ha hc a.Holds) :
    Calls Try.prog 35 #[.agg #[.int .i64 (a).Members, .slice la (a).Left.length lc, .bool (a).Open, .int .i64 (a).Eager, .slice ha (a).Holds.length hc, .bool (a).Swept, .int .i64 (a).Winner, .bool (a).Done]] w fun x w' => ∃ u, x = .returned u ∧ Ext w w' ∧ ArF B (closed a) u w' := by
  rw [closed_eq]
  have hfin := Lib.hid fun w' (he : Ext w w') => (⟨h1.ext he, h2.ext he⟩ : OI B w' la lc a.Left ∧ OI B w' ha hc a.Holds)
  have hd := Lib.hid fun m w' (he : Ext w w') => dec_mk B { a with Open := false } m la ha lc hc w' hl (h1.rep.ext he)
  obtain ⟨n, hn⟩ : ∃ n, n = a.Left.length := ⟨_, rfl⟩
  obtain ⟨nh, hnh⟩ : ∃ n, n = a.Holds.length := ⟨_, rfl⟩
  by_cases he1 : a.Eager = -1
  · rw [if_pos he1]
    have hb1 : (a.Eager == -1) = true := by simp [he1]
    replace he1 := Lib.hid he1
    by_cases h0 : n = 0
    · subst h0
      rw [if_pos hn.symm]
      replace hd := hd.out (-1)
      obtain ⟨q, hqd⟩ : ∃ q, q = decideA { a with Open := false } (-1) := ⟨_, rfl⟩
      rw [← hqd] at hd ⊢
      simp only [← hn, ← hnh] at hd ⊢
      replace hd := Lib.hid hd
      replace hn := Lib.hid hn
      replace hnh := Lib.hid hnh
      clear h1 h2 hl hqd hfin
      go_enter Try.func35, Try.ntmps35
      go_wp2_with fail
      refine Calls.mono (hd.out _ ?_) ?_
      focus (repeat (first | exact Ext.refl _ | assumption | refine Ext.alloc ?_ _ | refine Ext.ext ?_ _ | refine Ext.drew ?_))
      rintro _ _ ⟨u, rfl, ⟨d, rfl⟩, ⟨la', lc', ha', hc', va, vc, rfl, u1, u2, u3⟩, _⟩
      have hz : (((w.alloc (.cells #[.int .i64 a.Members, .slice la 0 lc, .bool false, .int .i64 a.Eager, .slice ha nh hc, .bool a.Swept, .int .i64 a.Winner, .bool a.Done] 24)).alloc (.cells #[.int .i64 0, .slice none 0 0, .bool false, .int .i64 0, .slice none 0 0, .bool false, .int .i64 0, .bool false] 24)).ext d).heap[w.heap.size + 1]? = some (.cells #[.int .i64 0, .slice none 0 0, .bool false, .int .i64 0, .slice none 0 0, .bool false, .int .i64 0, .bool false] 24) := heap_ext1 (heap_new _ _ (by simp)); have v1 := Lib.hid (u1.turnA (w' := ((w.alloc (.cells #[.int .i64 a.Members, .slice la 0 lc, .bool false, .int .i64 a.Eager, .slice ha nh hc, .bool a.Swept, .int .i64 a.Winner, .bool a.Done] 24)).alloc (.cells #[.int .i64 (q.1).Members, .slice la' (q.1).Left.length lc', .bool (q.1).Open, .int .i64 (q.1).Eager, .slice ha' (q.1).Holds.length hc', .bool (q.1).Swept, .int .i64 (q.1).Winner, .bool (q.1).Done] 24)).ext d) (b := w.heap.size + 1) (by (repeat (first | exact Like.refl _ _ | refine Like.ext ?_ _ | refine Like.alloc ?_ _ | refine Like.swap ?_ (by simp <;> omega) _ _))) hz); have v2 := Lib.hid (u2.turnA (w' := ((w.alloc (.cells #[.int .i64 a.Members, .slice la 0 lc, .bool false, .int .i64 a.Eager, .slice ha nh hc, .bool a.Swept, .int .i64 a.Winner, .bool a.Done] 24)).alloc (.cells #[.int .i64 (q.1).Members, .slice la' (q.1).Left.length lc', .bool (q.1).Open, .int .i64 (q.1).Eager, .slice ha' (q.1).Holds.length hc', .bool (q.1).Swept, .int .i64 (q.1).Winner, .bool (q.1).Done] 24)).ext d) (b := w.heap.size + 1) (by (repeat (first | exact Like.refl _ _ | refine Like.ext ?_ _ | refine Like.alloc ?_ _ | refine Like.swap ?_ (by simp <;> omega) _ _))) hz); have v3 := Lib.hid (u3.turnA (w' := ((w.alloc (.cells #[.int .i64 a.Members, .slice la 0 lc, .bool false, .int .i64 a.Eager, .slice ha nh hc, .bool a.Swept, .int .i64 a.Winner, .bool a.Done] 24)).alloc (.cells #[.int .i64 (q.1).Members, .slice la' (q.1).Left.length lc', .bool (q.1).Open, .int .i64 (q.1).Eager, .slice ha' (q.1).Holds.length hc', .bool (q.1).Swept, .int .i64 (q.1).Winner, .bool (q.1).Done] 24)).ext d) (b := w.heap.size + 1) (by (repeat (first | exact Like.refl _ _ | refine Like.ext ?_ _ | refine Like.alloc ?_ _ | refine Like.swap ?_ (by simp <;> omega) _ _))) hz); clear u1 u2 u3 hz; skip; go_wp2; (refine bodyPost_ret (v := ?_) (by simp [results, Try.results35, go_sem]; rfl) rfl ?_); (refine ⟨_, rfl, ?_, ⟨la', lc', ha', hc', va, vc, rfl, v1.out, v2.out, v3.out⟩⟩); (repeat (first | exact Ext.refl _ | assumption | refine Ext.alloc ?_ _ | refine Ext.ext ?_ _ | refine Ext.drew ?_))
    · rw [if_neg (by omega)]
      by_cases h1' : n = 1
      · subst h1'
        rw [if_pos hn.symm]
        have hne : a.Left ≠ [] := fun h => by rw [h] at hn; cases hn
        obtain ⟨g, rfl, c0, hgl⟩ := h1.head hne
        replace hd := hd.out (a.Left.headD 0)
        obtain ⟨x0, hx0⟩ : ∃ x0, x0 = a.Left.headD 0 := ⟨_, rfl⟩
        rw [← hx0] at hd c0 ⊢
        obtain ⟨q, hqd⟩ : ∃ q, q = decideA { a with Open := false } x0 := ⟨_, rfl⟩
        rw [← hqd] at hd ⊢
        simp only [← hn, ← hnh] at hd ⊢
        replace hd := Lib.hid hd
        replace hn := Lib.hid hn
        replace hnh := Lib.hid hnh
        clear h1 h2 hl hqd hfin hne hx0 h0
        go_enter Try.func35, Try.ntmps35
        go_wp2
        (refine wp_region_segs (fun i => if i = 5 then some (ArF B q, ArS q) else none) [([0, 1, 2, 3, 4], .m, 5)] [6, 7] [] [8, 9] (by kernel_rfl) (by kernel_rfl) (by simp only [List.map_cons, List.map_nil, List.filterMap_cons, List.filterMap_nil, List.getElem?_toArray, List.getElem?_cons_succ, List.getElem?_cons_zero]; try exact rfl) (by simp only [List.filterMap_cons, List.filterMap_nil, List.getElem?_toArray, List.getElem?_cons_succ, List.getElem?_cons_zero]; try exact rfl) (by simp only [List.filterMap_cons, List.filterMap_nil, List.getElem?_toArray, List.getElem?_cons_succ, List.getElem?_cons_zero]; try exact rfl) (by simp only [List.filterMap_cons, List.filterMap_nil, List.getElem?_toArray, List.getElem?_cons_succ, List.getElem?_cons_zero]; try exact rfl) (by decide) ?_)
        (refine sg_m ?_; (repeat (first | (refine ql_plain rfl rfl ?_; intro K hK; go_big_quiet_op; go_big_quiet_on) | (refine ql_nilCheck rfl rfl rfl ?_; intro K hK; simp only [Act.put, List.setIfInBounds_toArray, List.set_cons_succ, List.set_cons_zero]; go_big_quiet_on) | fail | (refine ql_skip rfl ?_; intro K hK; simp only [Act.put, List.setIfInBounds_toArray, List.set_cons_succ, List.set_cons_zero]; go_big_quiet_on))); refine ql_nil ?_)
        (refine sg_call (f := 36) (ArF B q) (ArS q) rfl (ArF.shp B q) (ArF.stable B q) (fun d => hd.out _ (by (repeat (first | exact Ext.refl _ | assumption | refine Ext.alloc ?_ _ | refine Ext.ext ?_ _ | refine Ext.drew ?_)))) (by simp only [List.getElem?_toArray, List.getElem?_cons_succ, List.getElem?_cons_zero]; try exact rfl) rfl rfl Try.func36 rfl (by kernel_rfl) rfl ?_; intro u hu hS K hK; obtain ⟨la', lc', ha', hc', va, vc, rfl⟩ := hS; simp only [Act.put, List.setIfInBounds_toArray, List.set_cons_succ, List.set_cons_zero]; refine hK _ ?_; clear hK K)
        (refine sg_last ?_; (repeat (first | (refine ql_plain rfl rfl ?_; intro K hK; go_big_quiet_op; go_big_quiet_on) | (refine ql_nilCheck rfl rfl rfl ?_; intro K hK; simp only [Act.put, List.setIfInBounds_toArray, List.set_cons_succ, List.set_cons_zero]; go_big_quiet_on) | fail | (refine ql_skip rfl ?_; intro K hK; simp only [Act.put, List.setIfInBounds_toArray, List.set_cons_succ, List.set_cons_zero]; go_big_quiet_on))); refine ql_nil ?_; (repeat (first | (refine pl_plain rfl rfl ?_; intro K hK; go_big_quiet_op; go_big_quiet_on) | (refine pl_nilCheck rfl rfl rfl ?_; intro K hK; simp only [Act.put, List.setIfInBounds_toArray, List.set_cons_succ, List.set_cons_zero]; go_big_quiet_on))); refine pl_nil ?_)
        rintro w1 ⟨d, rfl⟩ ⟨_, hf⟩
        obtain ⟨u1, u2, u3⟩ := ArF.use hf
        clear hf hd
        have hz : (((w.alloc (.cells #[.int .i64 a.Members, .slice (some ⟨g, 0, none⟩) 1 lc, .bool false, .int .i64 a.Eager, .slice ha nh hc, .bool a.Swept, .int .i64 a.Winner, .bool a.Done] 24)).alloc (.cells #[.int .i64 0, .slice none 0 0, .bool false, .int .i64 0, .slice none 0 0, .bool false, .int .i64 0, .bool false] 24)).ext d).heap[w.heap.size + 1]? = some (.cells #[.int .i64 0, .slice none 0 0, .bool false, .int .i64 0, .slice none 0 0, .bool false, .int .i64 0, .bool false] 24) := heap_ext1 (heap_new _ _ (by simp)); have v1 := Lib.hid (u1.turnA (w' := ((w.alloc (.cells #[.int .i64 a.Members, .slice (some ⟨g, 0, none⟩) 1 lc, .bool false, .int .i64 a.Eager, .slice ha nh hc, .bool a.Swept, .int .i64 a.Winner, .bool a.Done] 24)).alloc (.cells #[.int .i64 (q.1).Members, .slice la' (q.1).Left.length lc', .bool (q.1).Open, .int .i64 (q.1).Eager, .slice ha' (q.1).Holds.length hc', .bool (q.1).Swept, .int .i64 (q.1).Winner, .bool (q.1).Done] 24)).ext d) (b := w.heap.size + 1) (by (repeat (first | exact Like.refl _ _ | refine Like.ext ?_ _ | refine Like.alloc ?_ _ | refine Like.swap ?_ (by simp <;> omega) _ _))) hz); have v2 := Lib.hid (u2.turnA (w' := ((w.alloc (.cells #[.int .i64 a.Members, .slice (some ⟨g, 0, none⟩) 1 lc, .bool false, .int .i64 a.Eager, .slice ha nh hc, .bool a.Swept, .int .i64 a.Winner, .bool a.Done] 24)).alloc (.cells #[.int .i64 (q.1).Members, .slice la' (q.1).Left.length lc', .bool (q.1).Open, .int .i64 (q.1).Eager, .slice ha' (q.1).Holds.length hc', .bool (q.1).Swept, .int .i64 (q.1).Winner, .bool (q.1).Done] 24)).ext d) (b := w.heap.size + 1) (by (repeat (first | exact Like.refl _ _ | refine Like.ext ?_ _ | refine Like.alloc ?_ _ | refine Like.swap ?_ (by simp <;> omega) _ _))) hz); have v3 := Lib.hid (u3.turnA (w' := ((w.alloc (.cells #[.int .i64 a.Members, .slice (some ⟨g, 0, none⟩) 1 lc, .bool false, .int .i64 a.Eager, .slice ha nh hc, .bool a.Swept, .int .i64 a.Winner, .bool a.Done] 24)).alloc (.cells #[.int .i64 (q.1).Members, .slice la' (q.1).Left.length lc', .bool (q.1).Open, .int .i64 (q.1).Eager, .slice ha' (q.1).Holds.length hc', .bool (q.1).Swept, .int .i64 (q.1).Winner, .bool (q.1).Done] 24)).ext d) (b := w.heap.size + 1) (by (repeat (first | exact Like.refl _ _ | refine Like.ext ?_ _ | refine Like.alloc ?_ _ | refine Like.swap ?_ (by simp <;> omega) _ _))) hz); clear u1 u2 u3 hz; go_wp2; refine only_normal ?_; go_wp2; (refine bodyPost_ret (v := ?_) (by simp [results, Try.results35, go_sem]; rfl) rfl ?_); (refine ⟨_, rfl, ?_, ⟨la', lc', ha', hc', va, vc, rfl, v1.out, v2.out, v3.out⟩⟩); (repeat (first | exact Ext.refl _ | assumption | refine Ext.alloc ?_ _ | refine Ext.ext ?_ _ | refine Ext.drew ?_))
      · rw [if_neg (by omega)]
        have hb2 : ((n : Int) == 0) = false := by simp; omega
        have hb3 : ((n : Int) == 1) = false := by simp; omega
        simp only [← hn, ← hnh]
        replace hn := Lib.hid hn
        replace hnh := Lib.hid hnh
        clear h1 h2 hl hd h0 h1'
        go_enter Try.func35, Try.ntmps35
        go_wp2
        (refine bodyPost_ret (v := ?_) (by simp [results, Try.results35, go_sem]; rfl) rfl ?_)
        refine ⟨_, rfl, ?_, ⟨la, lc, ha, hc, none, 0, by simp only [← hn.out, ← hnh.out]; rfl, (hfin.out _ ?_).1, (hfin.out _ ?_).2, OV.nil _⟩⟩ <;> (repeat (first | exact Ext.refl _ | assumption | refine Ext.alloc ?_ _ | refine Ext.ext ?_ _ | refine Ext.drew ?_))
  · rw [if_neg he1]
    have hb1 : (a.Eager == -1) = false := by simp [he1]
    replace hd := hd.out a.Eager
    obtain ⟨q, hqd⟩ : ∃ q, q = decideA { a with Open := false } a.Eager := ⟨_, rfl⟩
    rw [← hqd] at hd ⊢
    simp only [← hn, ← hnh] at hd ⊢
    replace hd := Lib.hid hd
    replace hn := Lib.hid hn
    replace hnh := Lib.hid hnh
    clear he1 h1 h2 hl hqd hfin
    go_enter Try.func35, Try.ntmps35
    go_wp2_with fail
    refine Calls.mono (hd.out _ ?_) ?_
    focus (repeat (first | exact Ext.refl _ | assumption | refine Ext.alloc ?_ _ | refine Ext.ext ?_ _ | refine Ext.drew ?_))
    rintro _ _ ⟨u, rfl, ⟨d, rfl⟩, ⟨la', lc', ha', hc', va, vc, rfl, u1, u2, u3⟩, _⟩
    have hz : (((w.alloc (.cells #[.int .i64 a.Members, .slice la n lc, .bool false, .int .i64 a.Eager, .slice ha nh hc, .bool a.Swept, .int .i64 a.Winner, .bool a.Done] 24)).alloc (.cells #[.int .i64 0, .slice none 0 0, .bool false, .int .i64 0, .slice none 0 0, .bool false, .int .i64 0, .bool false] 24)).ext d).heap[w.heap.size + 1]? = some (.cells #[.int .i64 0, .slice none 0 0, .bool false, .int .i64 0, .slice none 0 0, .bool false, .int .i64 0, .bool false] 24) := heap_ext1 (heap_new _ _ (by simp)); have v1 := Lib.hid (u1.turnA (w' := ((w.alloc (.cells #[.int .i64 a.Members, .slice la n lc, .bool false, .int .i64 a.Eager, .slice ha nh hc, .bool a.Swept, .int .i64 a.Winner, .bool a.Done] 24)).alloc (.cells #[.int .i64 (q.1).Members, .slice la' (q.1).Left.length lc', .bool (q.1).Open, .int .i64 (q.1).Eager, .slice ha' (q.1).Holds.length hc', .bool (q.1).Swept, .int .i64 (q.1).Winner, .bool (q.1).Done] 24)).ext d) (b := w.heap.size + 1) (by (repeat (first | exact Like.refl _ _ | refine Like.ext ?_ _ | refine Like.alloc ?_ _ | refine Like.swap ?_ (by simp <;> omega) _ _))) hz); have v2 := Lib.hid (u2.turnA (w' := ((w.alloc (.cells #[.int .i64 a.Members, .slice la n lc, .bool false, .int .i64 a.Eager, .slice ha nh hc, .bool a.Swept, .int .i64 a.Winner, .bool a.Done] 24)).alloc (.cells #[.int .i64 (q.1).Members, .slice la' (q.1).Left.length lc', .bool (q.1).Open, .int .i64 (q.1).Eager, .slice ha' (q.1).Holds.length hc', .bool (q.1).Swept, .int .i64 (q.1).Winner, .bool (q.1).Done] 24)).ext d) (b := w.heap.size + 1) (by (repeat (first | exact Like.refl _ _ | refine Like.ext ?_ _ | refine Like.alloc ?_ _ | refine Like.swap ?_ (by simp <;> omega) _ _))) hz); have v3 := Lib.hid (u3.turnA (w' := ((w.alloc (.cells #[.int .i64 a.Members, .slice la n lc, .bool false, .int .i64 a.Eager, .slice ha nh hc, .bool a.Swept, .int .i64 a.Winner, .bool a.Done] 24)).alloc (.cells #[.int .i64 (q.1).Members, .slice la' (q.1).Left.length lc', .bool (q.1).Open, .int .i64 (q.1).Eager, .slice ha' (q.1).Holds.length hc', .bool (q.1).Swept, .int .i64 (q.1).Winner, .bool (q.1).Done] 24)).ext d) (b := w.heap.size + 1) (by (repeat (first | exact Like.refl _ _ | refine Like.ext ?_ _ | refine Like.alloc ?_ _ | refine Like.swap ?_ (by simp <;> omega) _ _))) hz); clear u1 u2 u3 hz; skip; go_wp2; (refine bodyPost_ret (v := ?_) (by simp [results, Try.results35, go_sem]; rfl) rfl ?_); (refine ⟨_, rfl, ?_, ⟨la', lc', ha', hc', va, vc, rfl, v1.out, v2.out, v3.out⟩⟩); (repeat (first | exact Ext.refl _ | assumption | refine Ext.alloc ?_ _ | refine Ext.ext ?_ _ | refine Ext.drew ?_))
end Go.Proofs.Ytcnmljpabmgieaa.R
