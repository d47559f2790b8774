/- The reference's arena: Step, the events 4, 5 and 6. -/
import Derived.Test.YtcnmljpabmgieaaAr33
import Derived.WalkKit
import Derived.WalkSpells
import Derived.WalkLawsBesides
import Derived.Deep.QuietTactic
import Derived.BigQuiet
import Derived.BigRegion
import Derived.Lib.Hide
import Derived.Deep.RegionWith
set_option linter.unusedSimpArgs false
set_option linter.unusedVariables false
namespace Go.Proofs.Ytcnmljpabmgieaa.R
open Go.RowKit
set_option maxRecDepth 100000 in
set_option maxHeartbeats 4000000 in
theorem rStep4 (Φ : World → Option Addr → Nat → List Int → Prop) (hΦ : Rows Φ) (a : Arn) (M : Int) (la ha : Option Addr) (lc hc : Nat) (w : World) (h1 : Φ w la lc a.Left) (h2 : Φ w ha hc a.Holds) (hr : refuse a ⟨4, M⟩ = 0) :
    Calls Try.prog 23 #[.agg #[.int .i64 (a).Members, .slice la (a).Left.length lc, .bool (a).Open, .int .i64 (a).Eager, .slice ha (a).Holds.length hc, .bool (a).Swept, .int .i64 (a).Winner, .bool (a).Done], .agg #[.int .i64 4, .int .i64 M]] w fun x w' => ∃ la' lc' ha' hc' va vc, x = .returned (.tuple #[.agg #[.int .i64 ((act a ⟨4, M⟩).1).Members, .slice la' ((act a ⟨4, M⟩).1).Left.length lc', .bool ((act a ⟨4, M⟩).1).Open, .int .i64 ((act a ⟨4, M⟩).1).Eager, .slice ha' ((act a ⟨4, M⟩).1).Holds.length hc', .bool ((act a ⟨4, M⟩).1).Swept, .int .i64 ((act a ⟨4, M⟩).1).Winner, .bool ((act a ⟨4, M⟩).1).Done], .slice va (act a ⟨4, M⟩).2.length vc, .int .i64 0]) ∧ Ext w w' ∧ Φ w' la' lc' (act a ⟨4, M⟩).1.Left ∧ Φ w' ha' hc' (act a ⟨4, M⟩).1.Holds ∧ OV w' va vc (act a ⟨4, M⟩).2 := by
  obtain ⟨hv, hd, -, -, -, -, -, -⟩ := refuse_zero hr
  have hll := left_len hv
  have hlh := holds_len hv
  have hck := fun w' (he : Ext w w') => rCheck_ok a la ha lc hc w' (by omega) (by omega) (hΦ.rep (hΦ.ext h1 he)) (hΦ.rep (hΦ.ext h2 he))
  have hrf := fun w' (he : Ext w w') => rRef_ok a 4 M la ha lc hc w' (by omega) (by omega) (hΦ.rep (hΦ.ext h1 he)) (hΦ.rep (hΦ.ext h2 he))
  rw [(check_zero a).2 hv] at hck
  rw [rref_eq a _ ((check_zero a).2 hv), hr] at hrf
  replace hck := Lib.hid hck
  replace hrf := Lib.hid hrf
  obtain ⟨q, hq⟩ : ∃ q, q = act a ⟨4, M⟩ := ⟨_, rfl⟩
  rw [← hq]
  rw [← ract_eq a _ hr] at hq
  unfold ract at hq
  have hl1 := Lib.hid fun w' (he : Ext w w') => hΦ.ext h1 he
  have hl2 := Lib.hid fun w' (he : Ext w w') => hΦ.ext h2 he
  simp only [show ((4 : Int) = 1) = False by simp, show ((4 : Int) = 2) = False by simp, show ((4 : Int) = 3) = False by simp, if_false, if_true] at hq
  have hwi := fun w' (he : Ext w w') => rWith_ok a.Holds M ha hc w' (by omega) (hΦ.rep (hΦ.ext h2 he))
  clear h1 h2 hv hr hd
  obtain ⟨n, hn⟩ : ∃ n, n = a.Left.length := ⟨_, rfl⟩
  obtain ⟨nh, hnh⟩ : ∃ n, n = a.Holds.length := ⟨_, rfl⟩
  rw [← hn] at hck hrf hll ⊢
  rw [← hnh] at hck hrf hlh ⊢
  replace hn := Lib.hid hn
  replace hnh := Lib.hid hnh
  rw [← hnh.out] at hwi
  obtain ⟨Z, hZ⟩ : ∃ Z, Z = withL a.Holds M := ⟨_, rfl⟩
  rw [← hZ] at hwi hq
  obtain ⟨nz, hnz⟩ : ∃ n, n = Z.length := ⟨_, rfl⟩
  rw [← hnz] at hwi
  replace hwi := Lib.hid hwi
  replace hq := Lib.hid hq
  replace hnz := Lib.hid hnz
  clear hZ
  (go_enter Try.func23, Try.ntmps23; (go_wp2_with fail); (refine Calls.mono (hck.out _ (by (repeat (first | exact Ext.refl _ | assumption | refine Ext.alloc ?_ _ | refine Ext.ext ?_ _ | refine Ext.drew ?_)))) ?_); (rintro _ _ ⟨rfl, D1, rfl⟩); (go_wp2_with fail); (refine Calls.mono (hrf.out _ (by (repeat (first | exact Ext.refl _ | assumption | refine Ext.alloc ?_ _ | refine Ext.ext ?_ _ | refine Ext.drew ?_)))) ?_); (rintro _ _ ⟨rfl, D2, rfl⟩))
  go_wp2_with fail
  refine Calls.mono (hwi.out _ (by (repeat (first | exact Ext.refl _ | assumption | refine Ext.alloc ?_ _ | refine Ext.ext ?_ _ | refine Ext.drew ?_)))) ?_
  rintro _ _ ⟨ha', hc', rfl, ⟨D3, rfl⟩, ho⟩
  have hv2 : OI _ ((((((w.alloc (.cells #[.int .i64 a.Members, .slice la n lc, .bool a.Open, .int .i64 a.Eager, .slice ha' nz hc', .bool a.Swept, .int .i64 a.Winner, .bool a.Done] 24)).alloc (.cells #[.int .i64 4, .int .i64 M] 26)).alloc (.cells #[.int .i64 a.Members, .slice la n lc, .bool a.Open, .int .i64 a.Eager, .slice ha' nz hc', .bool a.Swept, .int .i64 a.Winner, .bool a.Done] 24)).ext D1).ext D2).ext D3) ha' hc' Z :=
    ho.turn2 (b := w.heap.size) (c := w.heap.size + 2) (by (repeat (first | exact Like.refl _ _ | refine Like.ext ?_ _ | refine Like.alloc ?_ _ | refine Like.swap ?_ (by simp <;> omega) _ _))) (heap_ext1 (heap_ext1 (heap_ext1 (heap_alloc1 (heap_alloc1 (heap_new _ _ rfl)))))) (heap_ext1 (heap_ext1 (heap_ext1 (heap_new _ _ (by simp)))))
  replace hv2 := Lib.hid hv2
  clear ho
  go_wp2
  (refine bodyPost_ret (v := ?_) (by simp [results, Try.results23, go_sem]; rfl) rfl ?_)
  obtain rfl := hn.out
  obtain rfl := hnz.out
  obtain rfl := hq.out
  exact ⟨la, lc, ha', hc', none, 0, rfl, by (repeat (first | exact Ext.refl _ | assumption | refine Ext.alloc ?_ _ | refine Ext.ext ?_ _ | refine Ext.drew ?_)), hl1.out _ (by (repeat (first | exact Ext.refl _ | assumption | refine Ext.alloc ?_ _ | refine Ext.ext ?_ _ | refine Ext.drew ?_))), hΦ.own hv2.out.low, OV.nil _⟩
set_option maxRecDepth 100000 in
set_option maxHeartbeats 4000000 in
theorem rStep5 (Φ : World → Option Addr → Nat → List Int → Prop) (hΦ : Rows Φ) (a : Arn) (M : Int) (la ha : Option Addr) (lc hc : Nat) (w : World) (h1 : Φ w la lc a.Left) (h2 : Φ w ha hc a.Holds) (hr : refuse a ⟨5, M⟩ = 0) :
    Calls Try.prog 23 #[.agg #[.int .i64 (a).Members, .slice la (a).Left.length lc, .bool (a).Open, .int .i64 (a).Eager, .slice ha (a).Holds.length hc, .bool (a).Swept, .int .i64 (a).Winner, .bool (a).Done], .agg #[.int .i64 5, .int .i64 M]] w fun x w' => ∃ la' lc' ha' hc' va vc, x = .returned (.tuple #[.agg #[.int .i64 ((act a ⟨5, M⟩).1).Members, .slice la' ((act a ⟨5, M⟩).1).Left.length lc', .bool ((act a ⟨5, M⟩).1).Open, .int .i64 ((act a ⟨5, M⟩).1).Eager, .slice ha' ((act a ⟨5, M⟩).1).Holds.length hc', .bool ((act a ⟨5, M⟩).1).Swept, .int .i64 ((act a ⟨5, M⟩).1).Winner, .bool ((act a ⟨5, M⟩).1).Done], .slice va (act a ⟨5, M⟩).2.length vc, .int .i64 0]) ∧ Ext w w' ∧ Φ w' la' lc' (act a ⟨5, M⟩).1.Left ∧ Φ w' ha' hc' (act a ⟨5, M⟩).1.Holds ∧ OV w' va vc (act a ⟨5, M⟩).2 := by
  obtain ⟨hv, hd, -, -, -, -, -, -⟩ := refuse_zero hr
  have hll := left_len hv
  have hlh := holds_len hv
  have hck := fun w' (he : Ext w w') => rCheck_ok a la ha lc hc w' (by omega) (by omega) (hΦ.rep (hΦ.ext h1 he)) (hΦ.rep (hΦ.ext h2 he))
  have hrf := fun w' (he : Ext w w') => rRef_ok a 5 M la ha lc hc w' (by omega) (by omega) (hΦ.rep (hΦ.ext h1 he)) (hΦ.rep (hΦ.ext h2 he))
  rw [(check_zero a).2 hv] at hck
  rw [rref_eq a _ ((check_zero a).2 hv), hr] at hrf
  replace hck := Lib.hid hck
  replace hrf := Lib.hid hrf
  obtain ⟨q, hq⟩ : ∃ q, q = act a ⟨5, M⟩ := ⟨_, rfl⟩
  rw [← hq]
  rw [← ract_eq a _ hr] at hq
  unfold ract at hq
  have hl1 := Lib.hid fun w' (he : Ext w w') => hΦ.ext h1 he
  have hl2 := Lib.hid fun w' (he : Ext w w') => hΦ.ext h2 he
  obtain ⟨-, -, -, -, -, hm5, -, -⟩ := refuse_zero hr
  have hsw5 : Hid (a.Swept = true → a.Left ≠ []) := Lib.hid fun hs h => by
    have := hv.two (hv.swept hs).1 hd
    rw [h] at this
    simp at this
  simp only [show ((5 : Int) = 1) = False by simp, show ((5 : Int) = 2) = False by simp, show ((5 : Int) = 3) = False by simp, show ((5 : Int) = 4) = False by simp, if_false, if_true] at hq
  have hwi := fun w' (he : Ext w w') => rWithout_ok a.Holds M ha hc w' (by omega) (hΦ.rep (hΦ.ext h2 he))
  obtain ⟨Z, hZ⟩ : ∃ Z, Z = without a.Holds M := ⟨_, rfl⟩
  rw [← hZ] at hwi hq
  obtain ⟨nz, hnz⟩ : ∃ n, n = Z.length := ⟨_, rfl⟩
  have hnzl : nz ≤ 24 := by rw [hnz, hZ]; unfold without; exact Nat.le_trans (List.length_filter_le _ _) hlh
  clear h1 h2 hv hr hd hm5
  obtain ⟨n, hn⟩ : ∃ n, n = a.Left.length := ⟨_, rfl⟩
  obtain ⟨nh, hnh⟩ : ∃ n, n = a.Holds.length := ⟨_, rfl⟩
  rw [← hn] at hck hrf hll ⊢
  rw [← hnh] at hck hrf hlh ⊢
  replace hn := Lib.hid hn
  replace hnh := Lib.hid hnh
  rw [← hnh.out, ← hnz] at hwi
  rw [← hnz] at hq
  replace hwi := Lib.hid hwi
  replace hnz := Lib.hid hnz
  clear hZ
  by_cases hc5 : (a.Swept && decide (nz = 0)) = true
  focus
    rw [if_pos hc5] at hq
    simp only [Bool.and_eq_true, decide_eq_true_eq] at hc5
    obtain ⟨hsw, rfl⟩ := hc5
    obtain ⟨b, off, rfl, c0, hbl⟩ := rep_head (hΦ.rep (hl1.out w (Ext.refl _))) (hsw5.out hsw)
    have hpos : 0 < n := by rw [hn.out]; exact List.length_pos_iff.2 (hsw5.out hsw)
    have hdm := fun ha2 hc2 w' (he : Ext w w') => rdec_mk { a with Holds := Z } (a.Left.headD 0) (some ⟨b, off, none⟩) ha2 lc hc2 w' (by simp only; have := hn.out; omega) (hΦ.rep (hl1.out w' he))
    simp only at hdm
    rw [← hq, ← hn.out, ← hnz.out] at hdm
    obtain ⟨x0, hx0⟩ : ∃ x0, x0 = a.Left.headD 0 := ⟨_, rfl⟩
    rw [← hx0] at hdm c0
    rw [hsw] at hdm hck hrf
    replace hq := Lib.hid hq
    replace hdm := Lib.hid hdm
    have hsw' := Lib.hid hsw
    rw [hsw]
    clear hx0 hsw
    (go_enter Try.func23, Try.ntmps23; (go_wp2_with fail); (refine Calls.mono (hck.out _ (by (repeat (first | exact Ext.refl _ | assumption | refine Ext.alloc ?_ _ | refine Ext.ext ?_ _ | refine Ext.drew ?_)))) ?_); (rintro _ _ ⟨rfl, D1, rfl⟩); (go_wp2_with fail); (refine Calls.mono (hrf.out _ (by (repeat (first | exact Ext.refl _ | assumption | refine Ext.alloc ?_ _ | refine Ext.ext ?_ _ | refine Ext.drew ?_)))) ?_); (rintro _ _ ⟨rfl, D2, rfl⟩))
    go_wp2_with fail
    refine Calls.mono (hwi.out _ (by (repeat (first | exact Ext.refl _ | assumption | refine Ext.alloc ?_ _ | refine Ext.ext ?_ _ | refine Ext.drew ?_)))) ?_
    rintro _ _ ⟨ha2, hc2, rfl, ⟨D4, rfl⟩, ho⟩
    replace hdm := Lib.hid (hdm.out ha2 hc2)
    clear ho
    go_wp2
    ((refine wp_region_segs (fun i => if i = 6 then some (ArF 0 q, ArS q) else none) [([0, 1, 2, 3, 4, 5], .m, 6)] [7, 8] [9] [10, 11] (by kernel_rfl) (by kernel_rfl) (by simp only [List.map_cons, List.map_nil, List.filterMap_cons, List.filterMap_nil, List.getElem?_toArray, List.getElem?_cons_succ, List.getElem?_cons_zero]; try exact rfl) (by simp only [List.filterMap_cons, List.filterMap_nil, List.getElem?_toArray, List.getElem?_cons_succ, List.getElem?_cons_zero]; try exact rfl) (by simp only [List.filterMap_cons, List.filterMap_nil, List.getElem?_toArray, List.getElem?_cons_succ, List.getElem?_cons_zero]; try exact rfl) (by simp only [List.filterMap_cons, List.filterMap_nil, List.getElem?_toArray, List.getElem?_cons_succ, List.getElem?_cons_zero]; try exact rfl) (by decide) ?_); (refine sg_m ?_; (repeat (first | (refine ql_plain rfl rfl ?_; intro K hK; go_big_quiet_op; go_big_quiet_on) | (refine ql_nilCheck rfl rfl rfl ?_; intro K hK; simp only [Act.put, List.setIfInBounds_toArray, List.set_cons_succ, List.set_cons_zero]; go_big_quiet_on) | fail | (refine ql_skip rfl ?_; intro K hK; simp only [Act.put, List.setIfInBounds_toArray, List.set_cons_succ, List.set_cons_zero]; go_big_quiet_on))); refine ql_nil ?_); (refine sg_call (f := 42) (ArF 0 q) (ArS q) rfl (ArF.shp 0 q) (ArF.stable 0 q) (fun d => hdm.out _ (by (repeat (first | exact Ext.refl _ | assumption | refine Ext.alloc ?_ _ | refine Ext.ext ?_ _ | refine Ext.drew ?_)))) (by simp only [List.getElem?_toArray, List.getElem?_cons_succ, List.getElem?_cons_zero]; try exact rfl) rfl rfl Try.func42 rfl (by kernel_rfl) rfl ?_; intro u hu hS K hK; obtain ⟨la', lc', ha', hc', va, vc, rfl⟩ := hS; simp only [Act.put, List.setIfInBounds_toArray, List.set_cons_succ, List.set_cons_zero]; refine hK _ ?_; clear hK K); (refine sg_last ?_; (repeat (first | (refine ql_plain rfl rfl ?_; intro K hK; go_big_quiet_op; go_big_quiet_on) | (refine ql_nilCheck rfl rfl rfl ?_; intro K hK; simp only [Act.put, List.setIfInBounds_toArray, List.set_cons_succ, List.set_cons_zero]; go_big_quiet_on) | fail | (refine ql_skip rfl ?_; intro K hK; simp only [Act.put, List.setIfInBounds_toArray, List.set_cons_succ, List.set_cons_zero]; go_big_quiet_on))); refine ql_nil ?_; (repeat (first | (refine pl_plain rfl rfl ?_; intro K hK; go_big_quiet_op; go_big_quiet_on) | (refine pl_nilCheck rfl rfl rfl ?_; intro K hK; simp only [Act.put, List.setIfInBounds_toArray, List.set_cons_succ, List.set_cons_zero]; go_big_quiet_on))); refine pl_nil ?_); (rintro w1 ⟨D3, rfl⟩ ⟨_, hf⟩); (obtain ⟨u1, u2, u3⟩ := ArF.use hf))
    have hlk : Like (fun k => k = w.heap.size ∨ k = w.heap.size + 2) (((((((w.alloc (.cells #[.int .i64 a.Members, .slice (some ⟨b, off, none⟩) n lc, .bool a.Open, .int .i64 a.Eager, .slice ha2 0 hc2, .bool true, .int .i64 a.Winner, .bool a.Done] 24)).alloc (.cells #[.int .i64 5, .int .i64 M] 26)).alloc (.cells #[.int .i64 0, .slice none 0 0, .bool false, .int .i64 0, .slice none 0 0, .bool false, .int .i64 0, .bool false] 24)).ext D1).ext D2).ext D4).ext D3) (((((((w.alloc (.cells #[.int .i64 (q.1).Members, .slice la' (q.1).Left.length lc', .bool (q.1).Open, .int .i64 (q.1).Eager, .slice ha' (q.1).Holds.length hc', .bool (q.1).Swept, .int .i64 (q.1).Winner, .bool (q.1).Done] 24)).alloc (.cells #[.int .i64 5, .int .i64 M] 26)).alloc (.cells #[.int .i64 (q.1).Members, .slice la' (q.1).Left.length lc', .bool (q.1).Open, .int .i64 (q.1).Eager, .slice ha' (q.1).Holds.length hc', .bool (q.1).Swept, .int .i64 (q.1).Winner, .bool (q.1).Done] 24)).ext D1).ext D2).ext D4).ext D3) := by (repeat (first | exact Like.refl _ _ | refine Like.ext ?_ _ | refine Like.alloc ?_ _ | refine Like.swap ?_ (by simp <;> omega) _ _))
    have hb1 : (((((((w.alloc (.cells #[.int .i64 a.Members, .slice (some ⟨b, off, none⟩) n lc, .bool a.Open, .int .i64 a.Eager, .slice ha2 0 hc2, .bool true, .int .i64 a.Winner, .bool a.Done] 24)).alloc (.cells #[.int .i64 5, .int .i64 M] 26)).alloc (.cells #[.int .i64 0, .slice none 0 0, .bool false, .int .i64 0, .slice none 0 0, .bool false, .int .i64 0, .bool false] 24)).ext D1).ext D2).ext D4).ext D3).heap[w.heap.size]? = some (.cells #[.int .i64 a.Members, .slice (some ⟨b, off, none⟩) n lc, .bool a.Open, .int .i64 a.Eager, .slice ha2 0 hc2, .bool true, .int .i64 a.Winner, .bool a.Done] 24) := heap_ext1 (heap_ext1 (heap_ext1 (heap_ext1 (heap_alloc1 (heap_alloc1 (heap_new _ _ rfl))))))
    have hb2 : (((((((w.alloc (.cells #[.int .i64 a.Members, .slice (some ⟨b, off, none⟩) n lc, .bool a.Open, .int .i64 a.Eager, .slice ha2 0 hc2, .bool true, .int .i64 a.Winner, .bool a.Done] 24)).alloc (.cells #[.int .i64 5, .int .i64 M] 26)).alloc (.cells #[.int .i64 0, .slice none 0 0, .bool false, .int .i64 0, .slice none 0 0, .bool false, .int .i64 0, .bool false] 24)).ext D1).ext D2).ext D4).ext D3).heap[w.heap.size + 2]? = some (.cells #[.int .i64 0, .slice none 0 0, .bool false, .int .i64 0, .slice none 0 0, .bool false, .int .i64 0, .bool false] 24) := heap_ext1 (heap_ext1 (heap_ext1 (heap_ext1 (heap_new _ _ (by simp)))))
    have x1 := Lib.hid (OI.turn2 u1 hlk hb1 hb2)
    have x2 := Lib.hid (OI.turn2 u2 hlk hb1 hb2)
    have x3 := Lib.hid (OV.turn2 u3 hlk hb1 hb2)
    clear hlk hb1 hb2 u1 u2 u3 hf
    go_wp2; refine only_normal ?_
    go_wp2
    ((refine bodyPost_ret (v := ?_) (by simp [results, Try.results23, go_sem]; rfl) rfl ?_); exact ⟨la', lc', ha', hc', va, vc, rfl, by (repeat (first | exact Ext.refl _ | assumption | refine Ext.alloc ?_ _ | refine Ext.ext ?_ _ | refine Ext.drew ?_)), hΦ.own x1.out, hΦ.own x2.out, x3.out⟩)
  rw [if_neg hc5] at hq
  have hcase : a.Swept = false ∨ (a.Swept = true ∧ ((nz : Int) == 0) = false) := by
    rcases hs : a.Swept with _ | _
    · exact .inl rfl
    · refine .inr ⟨rfl, ?_⟩
      rw [hs] at hc5
      simp at hc5 ⊢
      exact hc5
  replace hq := Lib.hid hq
  clear hc5 hsw5
  rcases hcase with hsw | ⟨hsw, hz⟩
  all_goals
    rw [hsw] at hck hrf ⊢
    have hsw' := Lib.hid hsw
    clear hsw
    (go_enter Try.func23, Try.ntmps23; (go_wp2_with fail); (refine Calls.mono (hck.out _ (by (repeat (first | exact Ext.refl _ | assumption | refine Ext.alloc ?_ _ | refine Ext.ext ?_ _ | refine Ext.drew ?_)))) ?_); (rintro _ _ ⟨rfl, D1, rfl⟩); (go_wp2_with fail); (refine Calls.mono (hrf.out _ (by (repeat (first | exact Ext.refl _ | assumption | refine Ext.alloc ?_ _ | refine Ext.ext ?_ _ | refine Ext.drew ?_)))) ?_); (rintro _ _ ⟨rfl, D2, rfl⟩))
    go_wp2_with fail
    refine Calls.mono (hwi.out _ (by (repeat (first | exact Ext.refl _ | assumption | refine Ext.alloc ?_ _ | refine Ext.ext ?_ _ | refine Ext.drew ?_)))) ?_
    rintro _ _ ⟨ha', hc', rfl, ⟨D3, rfl⟩, ho⟩
    have hv2 := Lib.hid fun (z : Array Value) (z' : Array Value) => ho.turn2 (w' := (((((w.alloc (.cells z 24)).alloc (.cells #[.int .i64 5, .int .i64 M] 26)).alloc (.cells z' 24)).ext D1).ext D2).ext D3) (b := w.heap.size) (c := w.heap.size + 2) (by (repeat (first | exact Like.refl _ _ | refine Like.ext ?_ _ | refine Like.alloc ?_ _ | refine Like.swap ?_ (by simp <;> omega) _ _))) (heap_ext1 (heap_ext1 (heap_ext1 (heap_alloc1 (heap_alloc1 (heap_new _ _ rfl)))))) (heap_ext1 (heap_ext1 (heap_ext1 (heap_new _ _ (by simp)))))
    clear ho
    go_wp2
    (refine bodyPost_ret (v := ?_) (by simp [results, Try.results23, go_sem]; rfl) rfl ?_)
    obtain rfl := hn.out
    obtain rfl := hnz.out
    obtain rfl := hq.out
    exact ⟨la, lc, ha', hc', none, 0, by simp only [hsw'.out]; rfl, by (repeat (first | exact Ext.refl _ | assumption | refine Ext.alloc ?_ _ | refine Ext.ext ?_ _ | refine Ext.drew ?_)), hl1.out _ (by (repeat (first | exact Ext.refl _ | assumption | refine Ext.alloc ?_ _ | refine Ext.ext ?_ _ | refine Ext.drew ?_))), hΦ.own (hv2.out _ _).low, OV.nil _⟩
set_option maxRecDepth 100000 in
set_option maxHeartbeats 4000000 in
theorem rStep6 (Φ : World → Option Addr → Nat → List Int → Prop) (hΦ : Rows Φ) (a : Arn) (M : Int) (la ha : Option Addr) (lc hc : Nat) (w : World) (h1 : Φ w la lc a.Left) (h2 : Φ w ha hc a.Holds) (hr : refuse a ⟨6, M⟩ = 0) :
    Calls Try.prog 23 #[.agg #[.int .i64 (a).Members, .slice la (a).Left.length lc, .bool (a).Open, .int .i64 (a).Eager, .slice ha (a).Holds.length hc, .bool (a).Swept, .int .i64 (a).Winner, .bool (a).Done], .agg #[.int .i64 6, .int .i64 M]] w fun x w' => ∃ la' lc' ha' hc' va vc, x = .returned (.tuple #[.agg #[.int .i64 ((act a ⟨6, M⟩).1).Members, .slice la' ((act a ⟨6, M⟩).1).Left.length lc', .bool ((act a ⟨6, M⟩).1).Open, .int .i64 ((act a ⟨6, M⟩).1).Eager, .slice ha' ((act a ⟨6, M⟩).1).Holds.length hc', .bool ((act a ⟨6, M⟩).1).Swept, .int .i64 ((act a ⟨6, M⟩).1).Winner, .bool ((act a ⟨6, M⟩).1).Done], .slice va (act a ⟨6, M⟩).2.length vc, .int .i64 0]) ∧ Ext w w' ∧ Φ w' la' lc' (act a ⟨6, M⟩).1.Left ∧ Φ w' ha' hc' (act a ⟨6, M⟩).1.Holds ∧ OV w' va vc (act a ⟨6, M⟩).2 := by
  obtain ⟨hv, hd, -, -, -, -, -, -⟩ := refuse_zero hr
  have hll := left_len hv
  have hlh := holds_len hv
  have hck := fun w' (he : Ext w w') => rCheck_ok a la ha lc hc w' (by omega) (by omega) (hΦ.rep (hΦ.ext h1 he)) (hΦ.rep (hΦ.ext h2 he))
  have hrf := fun w' (he : Ext w w') => rRef_ok a 6 M la ha lc hc w' (by omega) (by omega) (hΦ.rep (hΦ.ext h1 he)) (hΦ.rep (hΦ.ext h2 he))
  rw [(check_zero a).2 hv] at hck
  rw [rref_eq a _ ((check_zero a).2 hv), hr] at hrf
  replace hck := Lib.hid hck
  replace hrf := Lib.hid hrf
  obtain ⟨q, hq⟩ : ∃ q, q = act a ⟨6, M⟩ := ⟨_, rfl⟩
  rw [← hq]
  rw [← ract_eq a _ hr] at hq
  unfold ract at hq
  have hl1 := Lib.hid fun w' (he : Ext w w') => hΦ.ext h1 he
  have hl2 := Lib.hid fun w' (he : Ext w w') => hΦ.ext h2 he
  obtain ⟨-, -, -, -, -, -, -, hm6⟩ := refuse_zero hr
  have hne6 : a.Left ≠ [] := fun h => by
    have := hv.two (hm6 rfl) hd
    rw [h] at this
    simp at this
  simp only [show ((6 : Int) = 1) = False by simp, show ((6 : Int) = 2) = False by simp, show ((6 : Int) = 3) = False by simp, show ((6 : Int) = 4) = False by simp, show ((6 : Int) = 5) = False by simp, if_false, if_true] at hq
  clear h1 h2 hv hr hd hm6
  obtain ⟨n, hn⟩ : ∃ n, n = a.Left.length := ⟨_, rfl⟩
  obtain ⟨nh, hnh⟩ : ∃ n, n = a.Holds.length := ⟨_, rfl⟩
  rw [← hn] at hck hrf hll ⊢
  rw [← hnh] at hck hrf hlh ⊢
  replace hn := Lib.hid hn
  replace hnh := Lib.hid hnh
  rw [← hnh.out] at hq
  by_cases h0 : nh = 0
  focus
    rw [if_pos h0] at hq
    obtain ⟨b, off, rfl, c0, hbl⟩ := rep_head (hΦ.rep (hl1.out w (Ext.refl _))) hne6
    have hpos : 0 < n := by rw [hn.out]; exact List.length_pos_iff.2 hne6
    have hdm := fun w' (he : Ext w w') => rdec_mk a (a.Left.headD 0) (some ⟨b, off, none⟩) ha lc hc w' (by have := hn.out; omega) (hΦ.rep (hl1.out w' he))
    rw [← hq, ← hn.out, ← hnh.out] at hdm
    obtain ⟨x0, hx0⟩ : ∃ x0, x0 = a.Left.headD 0 := ⟨_, rfl⟩
    rw [← hx0] at hdm c0
    have d1 : ((nh : Int) == 0) = true := by simp; omega
    replace hq := Lib.hid hq
    replace hdm := Lib.hid hdm
    clear hx0 h0 hne6
    (go_enter Try.func23, Try.ntmps23; (go_wp2_with fail); (refine Calls.mono (hck.out _ (by (repeat (first | exact Ext.refl _ | assumption | refine Ext.alloc ?_ _ | refine Ext.ext ?_ _ | refine Ext.drew ?_)))) ?_); (rintro _ _ ⟨rfl, D1, rfl⟩); (go_wp2_with fail); (refine Calls.mono (hrf.out _ (by (repeat (first | exact Ext.refl _ | assumption | refine Ext.alloc ?_ _ | refine Ext.ext ?_ _ | refine Ext.drew ?_)))) ?_); (rintro _ _ ⟨rfl, D2, rfl⟩))
    go_wp2
    ((refine wp_region_segs (fun i => if i = 6 then some (ArF 0 q, ArS q) else none) [([0, 1, 2, 3, 4, 5], .m, 6)] [7, 8] [9] [10, 11] (by kernel_rfl) (by kernel_rfl) (by simp only [List.map_cons, List.map_nil, List.filterMap_cons, List.filterMap_nil, List.getElem?_toArray, List.getElem?_cons_succ, List.getElem?_cons_zero]; try exact rfl) (by simp only [List.filterMap_cons, List.filterMap_nil, List.getElem?_toArray, List.getElem?_cons_succ, List.getElem?_cons_zero]; try exact rfl) (by simp only [List.filterMap_cons, List.filterMap_nil, List.getElem?_toArray, List.getElem?_cons_succ, List.getElem?_cons_zero]; try exact rfl) (by simp only [List.filterMap_cons, List.filterMap_nil, List.getElem?_toArray, List.getElem?_cons_succ, List.getElem?_cons_zero]; try exact rfl) (by decide) ?_); (refine sg_m ?_; (repeat (first | (refine ql_plain rfl rfl ?_; intro K hK; go_big_quiet_op; go_big_quiet_on) | (refine ql_nilCheck rfl rfl rfl ?_; intro K hK; simp only [Act.put, List.setIfInBounds_toArray, List.set_cons_succ, List.set_cons_zero]; go_big_quiet_on) | fail | (refine ql_skip rfl ?_; intro K hK; simp only [Act.put, List.setIfInBounds_toArray, List.set_cons_succ, List.set_cons_zero]; go_big_quiet_on))); refine ql_nil ?_); (refine sg_call (f := 42) (ArF 0 q) (ArS q) rfl (ArF.shp 0 q) (ArF.stable 0 q) (fun d => hdm.out _ (by (repeat (first | exact Ext.refl _ | assumption | refine Ext.alloc ?_ _ | refine Ext.ext ?_ _ | refine Ext.drew ?_)))) (by simp only [List.getElem?_toArray, List.getElem?_cons_succ, List.getElem?_cons_zero]; try exact rfl) rfl rfl Try.func42 rfl (by kernel_rfl) rfl ?_; intro u hu hS K hK; obtain ⟨la', lc', ha', hc', va, vc, rfl⟩ := hS; simp only [Act.put, List.setIfInBounds_toArray, List.set_cons_succ, List.set_cons_zero]; refine hK _ ?_; clear hK K); (refine sg_last ?_; (repeat (first | (refine ql_plain rfl rfl ?_; intro K hK; go_big_quiet_op; go_big_quiet_on) | (refine ql_nilCheck rfl rfl rfl ?_; intro K hK; simp only [Act.put, List.setIfInBounds_toArray, List.set_cons_succ, List.set_cons_zero]; go_big_quiet_on) | fail | (refine ql_skip rfl ?_; intro K hK; simp only [Act.put, List.setIfInBounds_toArray, List.set_cons_succ, List.set_cons_zero]; go_big_quiet_on))); refine ql_nil ?_; (repeat (first | (refine pl_plain rfl rfl ?_; intro K hK; go_big_quiet_op; go_big_quiet_on) | (refine pl_nilCheck rfl rfl rfl ?_; intro K hK; simp only [Act.put, List.setIfInBounds_toArray, List.set_cons_succ, List.set_cons_zero]; go_big_quiet_on))); refine pl_nil ?_); (rintro w1 ⟨D3, rfl⟩ ⟨_, hf⟩); (obtain ⟨u1, u2, u3⟩ := ArF.use hf))
    (have hlk : Like (fun k => k = w.heap.size ∨ k = w.heap.size + 2) ((((((w.alloc (.cells #[.int .i64 a.Members, .slice (some ⟨b, off, none⟩) n lc, .bool a.Open, .int .i64 a.Eager, .slice ha nh hc, .bool a.Swept, .int .i64 a.Winner, .bool a.Done] 24)).alloc (.cells #[.int .i64 6, .int .i64 M] 26)).alloc (.cells #[.int .i64 0, .slice none 0 0, .bool false, .int .i64 0, .slice none 0 0, .bool false, .int .i64 0, .bool false] 24)).ext D1).ext D2).ext D3) ((((((w.alloc (.cells #[.int .i64 (q.1).Members, .slice la' (q.1).Left.length lc', .bool (q.1).Open, .int .i64 (q.1).Eager, .slice ha' (q.1).Holds.length hc', .bool (q.1).Swept, .int .i64 (q.1).Winner, .bool (q.1).Done] 24)).alloc (.cells #[.int .i64 6, .int .i64 M] 26)).alloc (.cells #[.int .i64 (q.1).Members, .slice la' (q.1).Left.length lc', .bool (q.1).Open, .int .i64 (q.1).Eager, .slice ha' (q.1).Holds.length hc', .bool (q.1).Swept, .int .i64 (q.1).Winner, .bool (q.1).Done] 24)).ext D1).ext D2).ext D3) := by (repeat (first | exact Like.refl _ _ | refine Like.ext ?_ _ | refine Like.alloc ?_ _ | refine Like.swap ?_ (by simp <;> omega) _ _))); (have hb1 : ((((((w.alloc (.cells #[.int .i64 a.Members, .slice (some ⟨b, off, none⟩) n lc, .bool a.Open, .int .i64 a.Eager, .slice ha nh hc, .bool a.Swept, .int .i64 a.Winner, .bool a.Done] 24)).alloc (.cells #[.int .i64 6, .int .i64 M] 26)).alloc (.cells #[.int .i64 0, .slice none 0 0, .bool false, .int .i64 0, .slice none 0 0, .bool false, .int .i64 0, .bool false] 24)).ext D1).ext D2).ext D3).heap[w.heap.size]? = some (.cells #[.int .i64 a.Members, .slice (some ⟨b, off, none⟩) n lc, .bool a.Open, .int .i64 a.Eager, .slice ha nh hc, .bool a.Swept, .int .i64 a.Winner, .bool a.Done] 24) := heap_ext1 (heap_ext1 (heap_ext1 (heap_alloc1 (heap_alloc1 (heap_new _ _ rfl)))))); (have hb2 : ((((((w.alloc (.cells #[.int .i64 a.Members, .slice (some ⟨b, off, none⟩) n lc, .bool a.Open, .int .i64 a.Eager, .slice ha nh hc, .bool a.Swept, .int .i64 a.Winner, .bool a.Done] 24)).alloc (.cells #[.int .i64 6, .int .i64 M] 26)).alloc (.cells #[.int .i64 0, .slice none 0 0, .bool false, .int .i64 0, .slice none 0 0, .bool false, .int .i64 0, .bool false] 24)).ext D1).ext D2).ext D3).heap[w.heap.size + 2]? = some (.cells #[.int .i64 0, .slice none 0 0, .bool false, .int .i64 0, .slice none 0 0, .bool false, .int .i64 0, .bool false] 24) := heap_ext1 (heap_ext1 (heap_ext1 (heap_new _ _ (by simp))))); (have x1 := Lib.hid (OI.turn2 u1 hlk hb1 hb2)); (have x2 := Lib.hid (OI.turn2 u2 hlk hb1 hb2)); (have x3 := Lib.hid (OV.turn2 u3 hlk hb1 hb2)); clear hlk hb1 hb2 u1 u2 u3
    clear hf
    go_wp2; refine only_normal ?_
    go_wp2
    ((refine bodyPost_ret (v := ?_) (by simp [results, Try.results23, go_sem]; rfl) rfl ?_); exact ⟨la', lc', ha', hc', va, vc, rfl, by (repeat (first | exact Ext.refl _ | assumption | refine Ext.alloc ?_ _ | refine Ext.ext ?_ _ | refine Ext.drew ?_)), hΦ.own x1.out, hΦ.own x2.out, x3.out⟩)
  rw [if_neg h0] at hq
  have d1 : ((nh : Int) == 0) = false := by simp; omega
  replace hq := Lib.hid hq
  clear h0 hne6
  (go_enter Try.func23, Try.ntmps23; (go_wp2_with fail); (refine Calls.mono (hck.out _ (by (repeat (first | exact Ext.refl _ | assumption | refine Ext.alloc ?_ _ | refine Ext.ext ?_ _ | refine Ext.drew ?_)))) ?_); (rintro _ _ ⟨rfl, D1, rfl⟩); (go_wp2_with fail); (refine Calls.mono (hrf.out _ (by (repeat (first | exact Ext.refl _ | assumption | refine Ext.alloc ?_ _ | refine Ext.ext ?_ _ | refine Ext.drew ?_)))) ?_); (rintro _ _ ⟨rfl, D2, rfl⟩))
  go_wp2
  ((refine bodyPost_ret (v := ?_) (by simp [results, Try.results23, go_sem]; rfl) rfl ?_); (obtain rfl := hn.out); (obtain rfl := hnh.out); (obtain rfl := hq.out); (refine ⟨la, lc, ha, hc, none, 0, rfl, ?_, hl1.out _ ?_, hl2.out _ ?_, OV.nil _⟩); (all_goals (repeat (first | exact Ext.refl _ | assumption | refine Ext.alloc ?_ _ | refine Ext.ext ?_ _ | refine Ext.drew ?_))))
end Go.Proofs.Ytcnmljpabmgieaa.R
