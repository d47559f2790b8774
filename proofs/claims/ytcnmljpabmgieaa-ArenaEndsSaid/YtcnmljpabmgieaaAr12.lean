/- Step. -/
import Derived.Test.YtcnmljpabmgieaaAr6
import Derived.Test.YtcnmljpabmgieaaAr7
import Derived.Test.YtcnmljpabmgieaaAr10
import Derived.Test.YtcnmljpabmgieaaAr11
import Derived.Maps.AppendAt
import Derived.Deep.DeepCutAuto
import Derived.WalkKit
import Derived.WalkSpells
import Derived.WalkLawsBesides
import Derived.Deep.QuietTactic
import Derived.BigQuiet
import Derived.BigRegion
import Derived.Lib.Hide
import Derived.Deep.RegionWith
set_option linter.unusedSimpArgs false
set_option linter.unusedVariables false
namespace Go
open Go.RowKit
theorem wp_block_then2 {P : Program} {s : Code} {K : Act → World → Prop} {Q' : Exit → Act → World → Prop} {b : Nat} {a : Act} {w : World} (h : s.wp P (Exit.then K (Exit.inBlock b (Exit.then K Q'))) a w) : s.wp P (Exit.inBlock b (Exit.then K Q')) a w := by
  refine wp_mono h ?_
  intro e a w hq
  cases e <;> exact hq
theorem own_up {w : World} {B n c : Nat} {a : Option Addr} {xs : List Value} {size : Nat} {T : TypeId} (h : w.ownsRow 0 T size (.slice a n c) n xs) (hb : ∀ b, (Value.slice a n c).blk = some b → B ≤ b) : w.ownsRow B T size (.slice a n c) n xs := by
  refine ⟨h.1, ?_⟩
  rcases h.2 with h2 | ⟨g, cap, cur, hv, _, r⟩
  · exact .inl h2
  · exact .inr ⟨g, cap, cur, hv, hb g (by rw [hv]; rfl), r⟩
end Go
namespace Go.Proofs.Ytcnmljpabmgieaa.R
open Go.RowKit
theorem check_facts {a : Arn} (h : check a = 0) (hd : a.Done = false) : (a.Open = false → 2 ≤ a.Left.length) ∧ (a.Swept = true → a.Open = false) ∧ rising a.Left = true := by
  unfold check at h
  split at h
  · cases h
  rename_i h1
  split at h
  · cases h
  split at h
  · cases h
  split at h
  · cases h
  rename_i h4
  unfold bad at h4
  simp only [Bool.or_eq_true, not_or, Bool.not_eq_true', Bool.not_eq_false] at h1
  refine ⟨fun ho => ?_, fun hs => ?_, h1.1.2⟩
  · split at h4
    · exact absurd rfl h4
    · split at h4
      · exact absurd rfl h4
      · split at h4
        · exact absurd rfl h4
        · split at h4
          · exact absurd rfl h4
          · rename_i h5
            simp [ho, hd] at h5
            exact h5
  · split at h4
    · exact absurd rfl h4
    · split at h4
      · exact absurd rfl h4
      · split at h4
        · exact absurd rfl h4
        · split at h4
          · exact absurd rfl h4
          · cases ho : a.Open
            · rfl
            · simp [hs, ho] at h4
theorem without_some {l : List Int} (m : Int) (hr : rising l = true) (hl : 2 ≤ l.length) : without l m ≠ [] := by
  match l, hl with
  | x :: y :: l, _ =>
    simp only [rising, Bool.and_eq_true, decide_eq_true_eq] at hr
    intro h
    unfold without at h
    rw [List.filter_eq_nil_iff] at h
    have h1 := h x (by simp)
    have h2 := h y (by simp)
    simp at h1 h2
    omega
theorem refuse_facts {a : Arn} {K M : Int} (h : refuse a ⟨K, M⟩ = 0) : 1 ≤ K ∧ K ≤ 6 ∧ a.Done = false ∧ check a = 0 ∧ (K = 6 → a.Open = false) := by
  unfold refuse at h
  rcases check_val a with hc | hc
  · rw [hc] at h
    rw [if_neg (by decide)] at h
    simp only at h
    split at h
    · cases h
    · rename_i hk
      simp only [Bool.or_eq_true, decide_eq_true_eq, not_or] at hk
      cases hD : a.Done
      · rw [hD] at h
        refine ⟨by omega, by omega, rfl, hc, fun h6 => ?_⟩
        subst h6
        cases hO : a.Open
        · rfl
        · rw [hO] at h
          simp at h
      · rw [hD] at h
        simp at h
  · rw [hc] at h
    rw [if_pos (by decide)] at h
    cases h
set_option maxRecDepth 100000 in
set_option maxHeartbeats 8000000 in
theorem step_ok {B : Nat} (a : Arn) (K M : Int) (la ha : Option Addr) (lc hc : Nat) (w : World) (hl : a.Left.length ≤ 1000) (hl2 : a.Holds.length ≤ 1000) (h1 : RepI w la a.Left) (h2 : RepI w ha a.Holds) (hB : B ≤ w.heap.size) :
    Calls Try.prog 21 #[.agg #[.int .i64 (a).Members, .slice la (a).Left.length lc, .bool (a).Open, .int .i64 (a).Eager, .slice ha (a).Holds.length hc, .bool (a).Swept, .int .i64 (a).Winner, .bool (a).Done], .agg #[.int .i64 K, .int .i64 M]] w fun x w' => ∃ la' lc' ha' hc' va vc, x = .returned (.tuple #[.agg #[.int .i64 ((step a ⟨K, M⟩).1).Members, .slice la' ((step a ⟨K, M⟩).1).Left.length lc', .bool ((step a ⟨K, M⟩).1).Open, .int .i64 ((step a ⟨K, M⟩).1).Eager, .slice ha' ((step a ⟨K, M⟩).1).Holds.length hc', .bool ((step a ⟨K, M⟩).1).Swept, .int .i64 ((step a ⟨K, M⟩).1).Winner, .bool ((step a ⟨K, M⟩).1).Done], .slice va (step a ⟨K, M⟩).2.1.length vc, .int .i64 (step a ⟨K, M⟩).2.2]) ∧ Ext w w' ∧ OI B w' la' lc' (step a ⟨K, M⟩).1.Left ∧ OI B w' ha' hc' (step a ⟨K, M⟩).1.Holds ∧ OV w' va vc (step a ⟨K, M⟩).2.1 := by
  obtain ⟨Z, hZ⟩ : ∃ Z, Z = step a ⟨K, M⟩ := ⟨_, rfl⟩
  rw [← hZ]
  have hrf := Lib.hid fun w' (he : Ext w w') => refuse_ok a K M la ha lc hc w' (by omega) (by omega) (h1.ext he) (h2.ext he)
  obtain ⟨X, hX⟩ : ∃ X, X = refuse a ⟨K, M⟩ := ⟨_, rfl⟩
  rw [← hX] at hrf
  unfold step at hZ
  rw [← hX] at hZ
  have hm1 := Lib.hid fun w' (he : Ext w w') => clone_mk B a.Left la lc w' (by omega) (h1.ext he) (Nat.le_trans hB he.size)
  have hm2 := Lib.hid fun w' (he : Ext w w') => clone_mk B a.Holds ha hc w' (by omega) (h2.ext he) (Nat.le_trans hB he.size)
  obtain ⟨n, hn⟩ : ∃ n, n = a.Left.length := ⟨_, rfl⟩
  obtain ⟨nh, hnh⟩ : ∃ n, n = a.Holds.length := ⟨_, rfl⟩
  rw [← hn] at hrf hm1 ⊢
  rw [← hnh] at hrf hm2 ⊢
  clear h1 h2
  rcases hx0 : (X == 0) with _ | _
  focus
    rw [hx0] at hZ
    subst hZ
    simp only [Bool.not_false, if_true]
    clear hX hm1 hm2 hl hl2 hn hnh
    go_enter Try.func21, Try.ntmps21
    go_wp2_with fail
    refine Calls.mono (hrf.out _ ?_) ?_
    focus (repeat (first | exact Ext.refl _ | assumption | refine Ext.alloc ?_ _ | refine Ext.ext ?_ _ | refine Ext.drew ?_))
    rintro _ _ ⟨rfl, d, rfl⟩
    go_wp2
    (refine bodyPost_ret (v := ?_) (by simp [results, Try.results21, go_sem]; rfl) rfl ?_)
    refine ⟨none, 0, none, 0, none, 0, rfl, ?_, OI.nil _ _, OI.nil _ _, OV.nil _⟩
    (repeat (first | exact Ext.refl _ | assumption | refine Ext.alloc ?_ _ | refine Ext.ext ?_ _ | refine Ext.drew ?_))
  obtain rfl : X = 0 := by simpa using hx0
  clear hx0
  obtain ⟨hk1, hk6, hD, hck, hk6o⟩ := refuse_facts hX.symm
  obtain ⟨hop, hsw, hris⟩ := check_facts hck hD
  have hnn : Hid (a.Open = false → without a.Left M ≠ []) := Lib.hid fun ho => without_some M hris (hop ho)
  clear hX hck hris hD
  obtain ⟨q, hq⟩ : ∃ q, q = act a ⟨K, M⟩ := ⟨_, rfl⟩
  rw [← hq, if_neg (by decide)] at hZ
  subst hZ
  replace hq := Lib.hid hq
  replace hn := Lib.hid hn
  replace hnh := Lib.hid hnh
  replace hop := Lib.hid hop
  replace hsw := Lib.hid hsw
  replace hk6o := Lib.hid hk6o
  go_enter Try.func21, Try.ntmps21
  go_wp2_with fail
  refine Calls.mono (hrf.out _ ?_) ?_
  focus (repeat (first | exact Ext.refl _ | assumption | refine Ext.alloc ?_ _ | refine Ext.ext ?_ _ | refine Ext.drew ?_))
  rintro _ _ ⟨rfl, d0, rfl⟩
  clear hrf
  go_wp2
  (refine wp_region_segs (fun i => if i = 2 then some (LiF B a.Left, LiS a.Left) else if i = 5 then some (LiF B a.Holds, LiS a.Holds) else none) [([0, 1], .m, 2), ([3, 4], .m, 5)] [6] [] [7, 8, 9] (by kernel_rfl) (by kernel_rfl) (by simp only [List.map_cons, List.map_nil, List.filterMap_cons, List.filterMap_nil, List.getElem?_toArray, List.getElem?_cons_succ, List.getElem?_cons_zero]; try exact rfl) (by simp only [List.filterMap_cons, List.filterMap_nil, List.getElem?_toArray, List.getElem?_cons_succ, List.getElem?_cons_zero]; try exact rfl) (by simp only [List.filterMap_cons, List.filterMap_nil, List.getElem?_toArray, List.getElem?_cons_succ, List.getElem?_cons_zero]; try exact rfl) (by simp only [List.filterMap_cons, List.filterMap_nil, List.getElem?_toArray, List.getElem?_cons_succ, List.getElem?_cons_zero]; try exact rfl) (by decide) ?_)
  (refine sg_m ?_; (repeat (first | (refine ql_plain rfl rfl ?_; intro K hK; go_big_quiet_op; go_big_quiet_on) | (refine ql_nilCheck rfl rfl rfl ?_; intro K hK; simp only [Act.put, List.setIfInBounds_toArray, List.set_cons_succ, List.set_cons_zero]; go_big_quiet_on) | fail | (refine ql_skip rfl ?_; intro K hK; simp only [Act.put, List.setIfInBounds_toArray, List.set_cons_succ, List.set_cons_zero]; go_big_quiet_on))); refine ql_nil ?_)
  (refine sg_call (f := 34) (LiF B a.Left) (LiS a.Left) rfl (LiF.shp B a.Left) (LiF.stable B a.Left) (fun d => hm1.out _ (by (repeat (first | exact Ext.refl _ | assumption | refine Ext.alloc ?_ _ | refine Ext.ext ?_ _ | refine Ext.drew ?_)))) (by simp only [List.getElem?_toArray, List.getElem?_cons_succ, List.getElem?_cons_zero]; try exact rfl) rfl rfl Try.func34 rfl (by kernel_rfl) rfl ?_; intro u hu hS K hK; obtain ⟨la1, lc1, rfl⟩ := hS; simp only [Act.put, List.setIfInBounds_toArray, List.set_cons_succ, List.set_cons_zero]; refine hK _ ?_; clear hK K)
  have hu1 := hu
  clear hu
  (refine sg_m ?_; (repeat (first | (refine ql_plain rfl rfl ?_; intro K hK; go_big_quiet_op; go_big_quiet_on) | (refine ql_nilCheck rfl rfl rfl ?_; intro K hK; simp only [Act.put, List.setIfInBounds_toArray, List.set_cons_succ, List.set_cons_zero]; go_big_quiet_on) | fail | (refine ql_skip rfl ?_; intro K hK; simp only [Act.put, List.setIfInBounds_toArray, List.set_cons_succ, List.set_cons_zero]; go_big_quiet_on))); refine ql_nil ?_)
  (refine sg_call (f := 34) (LiF B a.Holds) (LiS a.Holds) rfl (LiF.shp B a.Holds) (LiF.stable B a.Holds) (fun d => hm2.out _ (by (repeat (first | exact Ext.refl _ | assumption | refine Ext.alloc ?_ _ | refine Ext.ext ?_ _ | refine Ext.drew ?_)))) (by simp only [List.getElem?_toArray, List.getElem?_cons_succ, List.getElem?_cons_zero]; try exact rfl) rfl rfl Try.func34 rfl (by kernel_rfl) rfl ?_; intro u hu hS K hK; obtain ⟨ha1, hc1, rfl⟩ := hS; simp only [Act.put, List.setIfInBounds_toArray, List.set_cons_succ, List.set_cons_zero]; refine hK _ ?_; clear hK K)
  (refine sg_last ?_; (repeat (first | (refine ql_plain rfl rfl ?_; intro K hK; go_big_quiet_op; go_big_quiet_on) | (refine ql_nilCheck rfl rfl rfl ?_; intro K hK; simp only [Act.put, List.setIfInBounds_toArray, List.set_cons_succ, List.set_cons_zero]; go_big_quiet_on) | fail | (refine ql_skip rfl ?_; intro K hK; simp only [Act.put, List.setIfInBounds_toArray, List.set_cons_succ, List.set_cons_zero]; go_big_quiet_on))); refine ql_nil ?_; (repeat (first | (refine pl_plain rfl rfl ?_; intro K hK; go_big_quiet_op; go_big_quiet_on) | (refine pl_nilCheck rfl rfl rfl ?_; intro K hK; simp only [Act.put, List.setIfInBounds_toArray, List.set_cons_succ, List.set_cons_zero]; go_big_quiet_on))); refine pl_nil ?_)
  rintro w1 ⟨d, rfl⟩ ⟨⟨_, f1⟩, f2⟩
  have hub : Hid (∀ b, (Value.slice ha1 a.Holds.length hc1).blk = some b → w.heap.size + 3 ≤ b) := Lib.hid fun b hb => by have := (hu b hb).1; simp at this; omega
  have hdis : Hid (∀ b, (Value.slice la1 a.Left.length lc1).ownBlock = some b → (Value.slice ha1 a.Holds.length hc1).ownBlock ≠ some b) := Lib.hid fun b hb h2 => by
    cases la1 with
    | none => cases hb
    | some p =>
      cases ha1 with
      | none => cases h2
      | some r =>
        simp only [Value.ownBlock, Option.some.injEq] at hb h2
        have := (hu b (by simp [Value.blk, h2])).2
        exact this (.inr (by simp [Value.blk, hb]))
  clear hu hu1 hm1 hm2
  obtain ⟨D, hDD⟩ : ∃ D, D = d0.add d := ⟨_, rfl⟩
  have hz : (((((w.alloc (.cells #[.int .i64 a.Members, .slice la n lc, .bool a.Open, .int .i64 a.Eager, .slice ha nh hc, .bool a.Swept, .int .i64 a.Winner, .bool a.Done] 24)).alloc (.cells #[.int .i64 K, .int .i64 M] 26)).alloc (.cells #[.int .i64 0, .slice none 0 0, .bool false, .int .i64 0, .slice none 0 0, .bool false, .int .i64 0, .bool false] 24)).ext d0).ext d).heap[w.heap.size]? = some (.cells #[.int .i64 a.Members, .slice la n lc, .bool a.Open, .int .i64 a.Eager, .slice ha nh hc, .bool a.Swept, .int .i64 a.Winner, .bool a.Done] 24) := heap_ext1 (heap_ext1 (heap_alloc1 (heap_alloc1 (heap_new _ _ rfl))))
  have wL := Lib.hid fun z => f1.use.turnA (w' := (((((w.alloc (.cells z 24)).alloc (.cells #[.int .i64 K, .int .i64 M] 26)).alloc (.cells #[.int .i64 0, .slice none 0 0, .bool false, .int .i64 0, .slice none 0 0, .bool false, .int .i64 0, .bool false] 24)).ext d0).ext d)) (b := w.heap.size) (by (repeat (first | exact Like.refl _ _ | refine Like.ext ?_ _ | refine Like.alloc ?_ _ | refine Like.swap ?_ (by simp <;> omega) _ _))) hz
  have wH := Lib.hid fun z => f2.use.turnA (w' := (((((w.alloc (.cells z 24)).alloc (.cells #[.int .i64 K, .int .i64 M] 26)).alloc (.cells #[.int .i64 0, .slice none 0 0, .bool false, .int .i64 0, .slice none 0 0, .bool false, .int .i64 0, .bool false] 24)).ext d0).ext d)) (b := w.heap.size) (by (repeat (first | exact Like.refl _ _ | refine Like.ext ?_ _ | refine Like.alloc ?_ _ | refine Like.swap ?_ (by simp <;> omega) _ _))) hz
  simp only [World.ext_ext, ← hDD] at wL wH
  clear f1 f2 hz
  go_wp2; refine only_normal ?_
  simp only [World.ext_ext, ← hDD]
  clear hDD d0 d
  go_upto_if 26 with fail
  refine wp_block_then2 ?_
  go_cut [0, 8] (fun v0 v8 wc => ∃ (la' ha' va : Option Addr) (lc' hc' vc : Nat) (D' : Grow), v8 = .slice va q.2.length vc ∧ wc = ((((w.alloc (.cells #[.int .i64 (q.1).Members, .slice la' (q.1).Left.length lc', .bool (q.1).Open, .int .i64 (q.1).Eager, .slice ha' (q.1).Holds.length hc', .bool (q.1).Swept, .int .i64 (q.1).Winner, .bool (q.1).Done] 24)).alloc (.cells #[.int .i64 K, .int .i64 M] 26)).alloc (.cells #[.int .i64 0, .slice none 0 0, .bool false, .int .i64 0, .slice none 0 0, .bool false, .int .i64 0, .bool false] 24)).ext D') ∧ Hid (OI B wc la' lc' q.1.Left) ∧ Hid (OI B wc ha' hc' q.1.Holds) ∧ Hid (OV wc va vc q.2))
  case first =>
    rcases (show K = 1 ∨ K = 2 ∨ K = 3 ∨ K = 4 ∨ K = 5 ∨ K = 6 by omega) with rfl | rfl | rfl | rfl | rfl | rfl
    focus
      have hq' : q = closed a := hq.out
      have hc := Lib.hid (closed_ok a la1 ha1 lc1 hc1 _ (by omega) (wL.out #[.int .i64 a.Members, .slice la1 a.Left.length lc1, .bool a.Open, .int .i64 a.Eager, .slice ha1 a.Holds.length hc1, .bool a.Swept, .int .i64 a.Winner, .bool a.Done]) (wH.out #[.int .i64 a.Members, .slice la1 a.Left.length lc1, .bool a.Open, .int .i64 a.Eager, .slice ha1 a.Holds.length hc1, .bool a.Swept, .int .i64 a.Winner, .bool a.Done]))
      rw [← hq'] at hc
      clear hq' wL wH hub hdis
      go_wp2_with fail
      refine Calls.mono hc.out ?_
      rintro _ _ ⟨u, rfl, ⟨d2, rfl⟩, ⟨la', lc', ha', hc', va, vc, rfl, u1, u2, u3⟩⟩
      have hzc : Hid (((((w.alloc (.cells #[.int .i64 a.Members, .slice la1 a.Left.length lc1, .bool a.Open, .int .i64 a.Eager, .slice ha1 a.Holds.length hc1, .bool a.Swept, .int .i64 a.Winner, .bool a.Done] 24)).alloc (.cells #[.int .i64 1, .int .i64 M] 26)).alloc (.cells #[.int .i64 0, .slice none 0 0, .bool false, .int .i64 0, .slice none 0 0, .bool false, .int .i64 0, .bool false] 24)).ext D).heap[w.heap.size]? = some (.cells #[.int .i64 a.Members, .slice la1 a.Left.length lc1, .bool a.Open, .int .i64 a.Eager, .slice ha1 a.Holds.length hc1, .bool a.Swept, .int .i64 a.Winner, .bool a.Done] 24)) := Lib.hid (heap_ext1 (heap_alloc1 (heap_alloc1 (heap_new _ _ rfl))))
      have x1 := Lib.hid (u1.turnA (w' := ((((w.alloc (.cells #[.int .i64 (q.1).Members, .slice la' (q.1).Left.length lc', .bool (q.1).Open, .int .i64 (q.1).Eager, .slice ha' (q.1).Holds.length hc', .bool (q.1).Swept, .int .i64 (q.1).Winner, .bool (q.1).Done] 24)).alloc (.cells #[.int .i64 1, .int .i64 M] 26)).alloc (.cells #[.int .i64 0, .slice none 0 0, .bool false, .int .i64 0, .slice none 0 0, .bool false, .int .i64 0, .bool false] 24)).ext D).ext d2) (b := w.heap.size) (by (repeat (first | exact Like.refl _ _ | refine Like.ext ?_ _ | refine Like.alloc ?_ _ | refine Like.swap ?_ (by simp <;> omega) _ _))) (heap_ext1 hzc.out))
      have x2 := Lib.hid (u2.turnA (w' := ((((w.alloc (.cells #[.int .i64 (q.1).Members, .slice la' (q.1).Left.length lc', .bool (q.1).Open, .int .i64 (q.1).Eager, .slice ha' (q.1).Holds.length hc', .bool (q.1).Swept, .int .i64 (q.1).Winner, .bool (q.1).Done] 24)).alloc (.cells #[.int .i64 1, .int .i64 M] 26)).alloc (.cells #[.int .i64 0, .slice none 0 0, .bool false, .int .i64 0, .slice none 0 0, .bool false, .int .i64 0, .bool false] 24)).ext D).ext d2) (b := w.heap.size) (by (repeat (first | exact Like.refl _ _ | refine Like.ext ?_ _ | refine Like.alloc ?_ _ | refine Like.swap ?_ (by simp <;> omega) _ _))) (heap_ext1 hzc.out))
      have x3 := Lib.hid (u3.turnA (w' := ((((w.alloc (.cells #[.int .i64 (q.1).Members, .slice la' (q.1).Left.length lc', .bool (q.1).Open, .int .i64 (q.1).Eager, .slice ha' (q.1).Holds.length hc', .bool (q.1).Swept, .int .i64 (q.1).Winner, .bool (q.1).Done] 24)).alloc (.cells #[.int .i64 1, .int .i64 M] 26)).alloc (.cells #[.int .i64 0, .slice none 0 0, .bool false, .int .i64 0, .slice none 0 0, .bool false, .int .i64 0, .bool false] 24)).ext D).ext d2) (b := w.heap.size) (by (repeat (first | exact Like.refl _ _ | refine Like.ext ?_ _ | refine Like.alloc ?_ _ | refine Like.swap ?_ (by simp <;> omega) _ _))) (heap_ext1 hzc.out))
      clear u1 u2 u3 hzc
      go_wp2
      go_meet
      case rel => exact ⟨la', ha', va, lc', hc', vc, D.add d2, rfl, World.ext_ext _ _ _, x1, x2, x3⟩
    focus
      cases hO : a.Open
      focus
        have hq' : q = decideA a M := by rw [hq.out]; simp [act, hO]
        have hc := Lib.hid (dec_mk B a M la1 ha1 lc1 hc1 ((((w.alloc (.cells #[.int .i64 a.Members, .slice la1 a.Left.length lc1, .bool a.Open, .int .i64 a.Eager, .slice ha1 a.Holds.length hc1, .bool a.Swept, .int .i64 a.Winner, .bool a.Done] 24)).alloc (.cells #[.int .i64 2, .int .i64 M] 26)).alloc (.cells #[.int .i64 0, .slice none 0 0, .bool false, .int .i64 0, .slice none 0 0, .bool false, .int .i64 0, .bool false] 24)).ext D) (by omega) (wL.out #[.int .i64 a.Members, .slice la1 a.Left.length lc1, .bool a.Open, .int .i64 a.Eager, .slice ha1 a.Holds.length hc1, .bool a.Swept, .int .i64 a.Winner, .bool a.Done]).rep)
        rw [← hq', hO] at hc
        clear hq' wL wH hub hdis
        go_wp2_with fail
        refine Calls.mono hc.out ?_
        rintro _ _ ⟨u, rfl, ⟨d2, rfl⟩, ⟨la', lc', ha', hc', va, vc, rfl, u1, u2, u3⟩, _⟩
        have hzc : Hid (((((w.alloc (.cells #[.int .i64 a.Members, .slice la1 a.Left.length lc1, .bool false, .int .i64 a.Eager, .slice ha1 a.Holds.length hc1, .bool a.Swept, .int .i64 a.Winner, .bool a.Done] 24)).alloc (.cells #[.int .i64 2, .int .i64 M] 26)).alloc (.cells #[.int .i64 0, .slice none 0 0, .bool false, .int .i64 0, .slice none 0 0, .bool false, .int .i64 0, .bool false] 24)).ext D).heap[w.heap.size]? = some (.cells #[.int .i64 a.Members, .slice la1 a.Left.length lc1, .bool false, .int .i64 a.Eager, .slice ha1 a.Holds.length hc1, .bool a.Swept, .int .i64 a.Winner, .bool a.Done] 24)) := Lib.hid (heap_ext1 (heap_alloc1 (heap_alloc1 (heap_new _ _ rfl))))
        have x1 := Lib.hid (u1.turnA (w' := ((((w.alloc (.cells #[.int .i64 (q.1).Members, .slice la' (q.1).Left.length lc', .bool (q.1).Open, .int .i64 (q.1).Eager, .slice ha' (q.1).Holds.length hc', .bool (q.1).Swept, .int .i64 (q.1).Winner, .bool (q.1).Done] 24)).alloc (.cells #[.int .i64 2, .int .i64 M] 26)).alloc (.cells #[.int .i64 0, .slice none 0 0, .bool false, .int .i64 0, .slice none 0 0, .bool false, .int .i64 0, .bool false] 24)).ext D).ext d2) (b := w.heap.size) (by (repeat (first | exact Like.refl _ _ | refine Like.ext ?_ _ | refine Like.alloc ?_ _ | refine Like.swap ?_ (by simp <;> omega) _ _))) (heap_ext1 hzc.out))
        have x2 := Lib.hid (u2.turnA (w' := ((((w.alloc (.cells #[.int .i64 (q.1).Members, .slice la' (q.1).Left.length lc', .bool (q.1).Open, .int .i64 (q.1).Eager, .slice ha' (q.1).Holds.length hc', .bool (q.1).Swept, .int .i64 (q.1).Winner, .bool (q.1).Done] 24)).alloc (.cells #[.int .i64 2, .int .i64 M] 26)).alloc (.cells #[.int .i64 0, .slice none 0 0, .bool false, .int .i64 0, .slice none 0 0, .bool false, .int .i64 0, .bool false] 24)).ext D).ext d2) (b := w.heap.size) (by (repeat (first | exact Like.refl _ _ | refine Like.ext ?_ _ | refine Like.alloc ?_ _ | refine Like.swap ?_ (by simp <;> omega) _ _))) (heap_ext1 hzc.out))
        have x3 := Lib.hid (u3.turnA (w' := ((((w.alloc (.cells #[.int .i64 (q.1).Members, .slice la' (q.1).Left.length lc', .bool (q.1).Open, .int .i64 (q.1).Eager, .slice ha' (q.1).Holds.length hc', .bool (q.1).Swept, .int .i64 (q.1).Winner, .bool (q.1).Done] 24)).alloc (.cells #[.int .i64 2, .int .i64 M] 26)).alloc (.cells #[.int .i64 0, .slice none 0 0, .bool false, .int .i64 0, .slice none 0 0, .bool false, .int .i64 0, .bool false] 24)).ext D).ext d2) (b := w.heap.size) (by (repeat (first | exact Like.refl _ _ | refine Like.ext ?_ _ | refine Like.alloc ?_ _ | refine Like.swap ?_ (by simp <;> omega) _ _))) (heap_ext1 hzc.out))
        clear u1 u2 u3 hzc
        go_wp2
        go_meet
        case rel => exact ⟨la', ha', va, lc', hc', vc, D.add d2, rfl, World.ext_ext _ _ _, x1, x2, x3⟩

      focus
        by_cases he : a.Eager = -1
        focus
          obtain rfl : q = ({ a with Eager := M }, []) := by rw [hq.out]; simp [act, hO, he]
          have x1 := wL.out #[.int .i64 a.Members, .slice la1 a.Left.length lc1, .bool a.Open, .int .i64 M, .slice ha1 a.Holds.length hc1, .bool a.Swept, .int .i64 a.Winner, .bool a.Done]
          have x2 := wH.out #[.int .i64 a.Members, .slice la1 a.Left.length lc1, .bool a.Open, .int .i64 M, .slice ha1 a.Holds.length hc1, .bool a.Swept, .int .i64 a.Winner, .bool a.Done]
          rw [hO] at x1 x2
          replace x1 := Lib.hid x1
          replace x2 := Lib.hid x2
          clear wL wH hub hdis
          go_wp2
          go_meet
          case rel => exact ⟨la1, ha1, none, lc1, hc1, 0, D, rfl, by simp only [hO], x1, x2, Lib.hid (OV.nil _)⟩
        focus
          obtain rfl : q = (a, []) := by rw [hq.out]; simp [act, hO, he]
          have x1 := wL.out #[.int .i64 a.Members, .slice la1 a.Left.length lc1, .bool a.Open, .int .i64 a.Eager, .slice ha1 a.Holds.length hc1, .bool a.Swept, .int .i64 a.Winner, .bool a.Done]
          have x2 := wH.out #[.int .i64 a.Members, .slice la1 a.Left.length lc1, .bool a.Open, .int .i64 a.Eager, .slice ha1 a.Holds.length hc1, .bool a.Swept, .int .i64 a.Winner, .bool a.Done]
          rw [hO] at x1 x2
          replace x1 := Lib.hid x1
          replace x2 := Lib.hid x2
          clear wL wH hub hdis
          go_wp2
          go_meet
          case rel => exact ⟨la1, ha1, none, lc1, hc1, 0, D, rfl, by simp only [hO], x1, x2, Lib.hid (OV.nil _)⟩
    focus
      have hq' : q = quit a M := hq.out
      have hc := Lib.hid (quit_ok (B := B) a M la1 ha1 lc1 hc1 _ (by first | omega | (simp <;> omega)) (by omega) (by omega) (wL.out #[.int .i64 a.Members, .slice la1 a.Left.length lc1, .bool a.Open, .int .i64 a.Eager, .slice ha1 a.Holds.length hc1, .bool a.Swept, .int .i64 a.Winner, .bool a.Done]) (wH.out #[.int .i64 a.Members, .slice la1 a.Left.length lc1, .bool a.Open, .int .i64 a.Eager, .slice ha1 a.Holds.length hc1, .bool a.Swept, .int .i64 a.Winner, .bool a.Done]) hnn.out)
      rw [← hq'] at hc
      clear hq' wL wH hub hdis
      go_wp2_with fail
      refine Calls.mono hc.out ?_
      rintro _ _ ⟨u, rfl, ⟨d2, rfl⟩, ⟨la', lc', ha', hc', va, vc, rfl, u1, u2, u3⟩⟩
      have hzc : Hid (((((w.alloc (.cells #[.int .i64 a.Members, .slice la1 a.Left.length lc1, .bool a.Open, .int .i64 a.Eager, .slice ha1 a.Holds.length hc1, .bool a.Swept, .int .i64 a.Winner, .bool a.Done] 24)).alloc (.cells #[.int .i64 3, .int .i64 M] 26)).alloc (.cells #[.int .i64 0, .slice none 0 0, .bool false, .int .i64 0, .slice none 0 0, .bool false, .int .i64 0, .bool false] 24)).ext D).heap[w.heap.size]? = some (.cells #[.int .i64 a.Members, .slice la1 a.Left.length lc1, .bool a.Open, .int .i64 a.Eager, .slice ha1 a.Holds.length hc1, .bool a.Swept, .int .i64 a.Winner, .bool a.Done] 24)) := Lib.hid (heap_ext1 (heap_alloc1 (heap_alloc1 (heap_new _ _ rfl))))
      have x1 := Lib.hid (u1.turnA (w' := ((((w.alloc (.cells #[.int .i64 (q.1).Members, .slice la' (q.1).Left.length lc', .bool (q.1).Open, .int .i64 (q.1).Eager, .slice ha' (q.1).Holds.length hc', .bool (q.1).Swept, .int .i64 (q.1).Winner, .bool (q.1).Done] 24)).alloc (.cells #[.int .i64 3, .int .i64 M] 26)).alloc (.cells #[.int .i64 0, .slice none 0 0, .bool false, .int .i64 0, .slice none 0 0, .bool false, .int .i64 0, .bool false] 24)).ext D).ext d2) (b := w.heap.size) (by (repeat (first | exact Like.refl _ _ | refine Like.ext ?_ _ | refine Like.alloc ?_ _ | refine Like.swap ?_ (by simp <;> omega) _ _))) (heap_ext1 hzc.out))
      have x2 := Lib.hid (u2.turnA (w' := ((((w.alloc (.cells #[.int .i64 (q.1).Members, .slice la' (q.1).Left.length lc', .bool (q.1).Open, .int .i64 (q.1).Eager, .slice ha' (q.1).Holds.length hc', .bool (q.1).Swept, .int .i64 (q.1).Winner, .bool (q.1).Done] 24)).alloc (.cells #[.int .i64 3, .int .i64 M] 26)).alloc (.cells #[.int .i64 0, .slice none 0 0, .bool false, .int .i64 0, .slice none 0 0, .bool false, .int .i64 0, .bool false] 24)).ext D).ext d2) (b := w.heap.size) (by (repeat (first | exact Like.refl _ _ | refine Like.ext ?_ _ | refine Like.alloc ?_ _ | refine Like.swap ?_ (by simp <;> omega) _ _))) (heap_ext1 hzc.out))
      have x3 := Lib.hid (u3.turnA (w' := ((((w.alloc (.cells #[.int .i64 (q.1).Members, .slice la' (q.1).Left.length lc', .bool (q.1).Open, .int .i64 (q.1).Eager, .slice ha' (q.1).Holds.length hc', .bool (q.1).Swept, .int .i64 (q.1).Winner, .bool (q.1).Done] 24)).alloc (.cells #[.int .i64 3, .int .i64 M] 26)).alloc (.cells #[.int .i64 0, .slice none 0 0, .bool false, .int .i64 0, .slice none 0 0, .bool false, .int .i64 0, .bool false] 24)).ext D).ext d2) (b := w.heap.size) (by (repeat (first | exact Like.refl _ _ | refine Like.ext ?_ _ | refine Like.alloc ?_ _ | refine Like.swap ?_ (by simp <;> omega) _ _))) (heap_ext1 hzc.out))
      clear u1 u2 u3 hzc
      go_wp2
      go_meet
      case rel => exact ⟨la', ha', va, lc', hc', vc, D.add d2, rfl, World.ext_ext _ _ _, x1, x2, x3⟩
    focus
      have hc0 := Lib.hid (has_ok a.Holds M ha1 hc1 _ (by omega) (wH.out #[.int .i64 a.Members, .slice la1 a.Left.length lc1, .bool a.Open, .int .i64 a.Eager, .slice ha1 a.Holds.length hc1, .bool a.Swept, .int .i64 a.Winner, .bool a.Done]).rep)
      go_wp2_with fail
      refine Calls.mono hc0.out ?_
      rintro _ wz ⟨rfl, hwz⟩
      rw [hwz]
      clear hwz wz hc0
      rcases hp : has a.Holds M with _ | _
      rotate_left
      focus
        obtain rfl : q = (a, []) := by rw [hq.out]; simp [act, hp]
        have x1 := Lib.hid (wL.out #[.int .i64 a.Members, .slice la1 a.Left.length lc1, .bool a.Open, .int .i64 a.Eager, .slice ha1 a.Holds.length hc1, .bool a.Swept, .int .i64 a.Winner, .bool a.Done])
        have x2 := Lib.hid (wH.out #[.int .i64 a.Members, .slice la1 a.Left.length lc1, .bool a.Open, .int .i64 a.Eager, .slice ha1 a.Holds.length hc1, .bool a.Swept, .int .i64 a.Winner, .bool a.Done])
        clear wL wH hub hdis
        go_wp2
        go_meet
        case rel => exact ⟨la1, ha1, none, lc1, hc1, 0, D, rfl, rfl, x1, x2, Lib.hid (OV.nil _)⟩
      focus
        obtain ⟨i0, hi0, hz0, hi1, hi2⟩ := info_parts infoI
        replace hi0 := Lib.hid hi0
        replace hz0 := Lib.hid hz0
        replace hi1 := Lib.hid hi1
        replace hi2 := Lib.hid hi2
        have hL1 := Lib.hid (wL.out #[.int .i64 a.Members, .slice la1 a.Left.length lc1, .bool a.Open, .int .i64 a.Eager, .slice ha1 a.Holds.length hc1, .bool a.Swept, .int .i64 a.Winner, .bool a.Done])
        have hH1 := Lib.hid (own_up (OI.low (wH.out #[.int .i64 a.Members, .slice la1 a.Left.length lc1, .bool a.Open, .int .i64 a.Eager, .slice ha1 a.Holds.length hc1, .bool a.Swept, .int .i64 a.Winner, .bool a.Done])) hub.out)
        have h1o := Lib.hid (ints_one a.Holds)
        go_wp2_with (at_builtin; refine wpList_append_own_at _ rfl _ _ 22 rfl (w.heap.size + 3) 3 i0 _ 1 8 Try.underlying22 hi0.out hz0.out hi1.out hi2.out rfl (by decide) _ a.Holds.length (a.Holds.map (Value.int .i64)) rfl (ownsRow_ext hH1.out (by (repeat (first | exact Ext.refl _ | assumption | refine Ext.alloc ?_ _ | refine Ext.ext ?_ _ | refine Ext.drew ?_)))) ⟨_, 0, none⟩ 1 1 [.int .i64 M] rfl rfl (cells_at2 (heap_new _ _ (by simp)) rfl) (by simp [Value.oneCell']) (by unfold maxLen; omega) (by omega) (by simp <;> omega) ?_; intro v4 w4 hown hg hnil hat; obtain ⟨g, c4, hv4⟩ := ownsRow_pos hown (by omega); subst hv4; (have hgb := Lib.hid (hown.lt g rfl)); (have he4 : Ext (((w.alloc (.cells #[.int .i64 a.Members, .slice la1 a.Left.length lc1, .bool a.Open, .int .i64 a.Eager, .slice ha1 a.Holds.length hc1, .bool a.Swept, .int .i64 a.Winner, .bool a.Done] 24)).alloc (.cells #[.int .i64 4, .int .i64 M] 26)).alloc (.cells #[.int .i64 0, .slice none 0 0, .bool false, .int .i64 0, .slice none 0 0, .bool false, .int .i64 0, .bool false] 24)) w4 := Ext.of_grown (by (repeat (first | exact Ext.refl _ | assumption | refine Ext.alloc ?_ _ | refine Ext.ext ?_ _ | refine Ext.drew ?_))) hg (fun k hk => by have := (hH1.out.lt k hk).1; simpa using this)); (have hL4 := World.ownsRow.kept (ownsRow_ext hL1.out (Ext.alloc (Ext.refl _) (.cells #[.int .i64 M] 3))) hg (by
          rcases hlb : (Value.slice la1 a.Left.length lc1).ownBlock with _ | b
          · exact .inl rfl
          · exact .inr fun h => hdis.out b hlb h.symm)); (have hgl : Hid (∀ b, (Value.slice la1 a.Left.length lc1).ownBlock = some b → b ≠ g) := Lib.hid fun b hb e => (by
          subst e
          rcases hat with h | h
          · exact hdis.out b hb h.symm
          · have h3 := (hL1.out.lt b hb).2
            simp [Value.ownBlock] at h
            simp at h3
            omega)); obtain ⟨D4, hD4⟩ := he4; subst hD4; (have hz4 : ((((w.alloc (.cells #[.int .i64 a.Members, .slice la1 a.Left.length lc1, .bool a.Open, .int .i64 a.Eager, .slice ha1 a.Holds.length hc1, .bool a.Swept, .int .i64 a.Winner, .bool a.Done] 24)).alloc (.cells #[.int .i64 4, .int .i64 M] 26)).alloc (.cells #[.int .i64 0, .slice none 0 0, .bool false, .int .i64 0, .slice none 0 0, .bool false, .int .i64 0, .bool false] 24)).ext D4).heap[w.heap.size]? = some (.cells #[.int .i64 a.Members, .slice la1 a.Left.length lc1, .bool a.Open, .int .i64 a.Eager, .slice ha1 a.Holds.length hc1, .bool a.Swept, .int .i64 a.Winner, .bool a.Done] 24) := heap_ext1 (heap_alloc1 (heap_alloc1 (heap_new _ _ rfl)))); (have rL := Lib.hid fun z => ownsRow_like hL4 (Y := (((w.alloc (.cells z 24)).alloc (.cells #[.int .i64 4, .int .i64 M] 26)).alloc (.cells #[.int .i64 0, .slice none 0 0, .bool false, .int .i64 0, .slice none 0 0, .bool false, .int .i64 0, .bool false] 24)).ext D4) (S := fun k => k = w.heap.size) (by (repeat (first | exact Like.refl _ _ | refine Like.ext ?_ _ | refine Like.alloc ?_ _ | refine Like.swap ?_ (by simp <;> omega) _ _))) (own_other hL4 hz4 (by decide))); (have rH := Lib.hid fun z => ownsRow_like hown (Y := (((w.alloc (.cells z 24)).alloc (.cells #[.int .i64 4, .int .i64 M] 26)).alloc (.cells #[.int .i64 0, .slice none 0 0, .bool false, .int .i64 0, .slice none 0 0, .bool false, .int .i64 0, .bool false] 24)).ext D4) (S := fun k => k = w.heap.size) (by (repeat (first | exact Like.refl _ _ | refine Like.ext ?_ _ | refine Like.alloc ?_ _ | refine Like.swap ?_ (by simp <;> omega) _ _))) (own_other hown hz4 (by decide))); clear hown hg hnil hat hL4 hz4 hL1 hH1 wL wH hub hdis h1o hi0 hz0 hi1 hi2)
        have hlen1 : (a.Holds ++ [M]).length = a.Holds.length + 1 := by simp
        have hs := sort_ok (a.Holds ++ [M]) g c4 (w.heap.size + 3) ((((w.alloc (.cells #[.int .i64 a.Members, .slice la1 a.Left.length lc1, .bool a.Open, .int .i64 a.Eager, .slice (some ⟨g, 0, none⟩) (a.Holds.length + 1) c4, .bool a.Swept, .int .i64 a.Winner, .bool a.Done] 24)).alloc (.cells #[.int .i64 4, .int .i64 M] 26)).alloc (.cells #[.int .i64 0, .slice none 0 0, .bool false, .int .i64 0, .slice none 0 0, .bool false, .int .i64 0, .bool false] 24)).ext D4) (by rw [hlen1]; omega) (by rw [hlen1]; have := rH.out #[.int .i64 a.Members, .slice la1 a.Left.length lc1, .bool a.Open, .int .i64 a.Eager, .slice (some ⟨g, 0, none⟩) (a.Holds.length + 1) c4, .bool a.Swept, .int .i64 a.Winner, .bool a.Done]; simpa using this)
        rw [hlen1] at hs
        replace hs := Lib.hid hs
        replace hlen1 := Lib.hid hlen1
        refine Calls.mono hs.out ?_
        rintro _ w5 ⟨rfl, hg5, ho5⟩
        have he5 : Ext (((w.alloc (.cells #[.int .i64 a.Members, .slice la1 a.Left.length lc1, .bool a.Open, .int .i64 a.Eager, .slice (some ⟨g, 0, none⟩) (a.Holds.length + 1) c4, .bool a.Swept, .int .i64 a.Winner, .bool a.Done] 24)).alloc (.cells #[.int .i64 4, .int .i64 M] 26)).alloc (.cells #[.int .i64 0, .slice none 0 0, .bool false, .int .i64 0, .slice none 0 0, .bool false, .int .i64 0, .bool false] 24)) w5 := Ext.of_grown (by (repeat (first | exact Ext.refl _ | assumption | refine Ext.alloc ?_ _ | refine Ext.ext ?_ _ | refine Ext.drew ?_))) hg5 (fun k hk => by cases hk; have := hgb.out.1; simpa using this)
        have oL5 := Lib.hid (World.ownsRow.kept (rL.out #[.int .i64 a.Members, .slice la1 a.Left.length lc1, .bool a.Open, .int .i64 a.Eager, .slice (some ⟨g, 0, none⟩) (a.Holds.length + 1) c4, .bool a.Swept, .int .i64 a.Winner, .bool a.Done]) hg5 (by
          rcases hlb : (Value.slice la1 a.Left.length lc1).ownBlock with _ | b
          · exact .inl rfl
          · exact .inr fun h => hgl.out b hlb (by simpa using h)))
        obtain ⟨D5, hD5⟩ := he5
        subst hD5
        obtain rfl : q = ({ a with Holds := sorted (a.Holds ++ [M]) }, []) := by rw [hq.out]; simp [act, hp]
        have oH5 : Hid (OI B ((((w.alloc (.cells #[.int .i64 a.Members, .slice la1 a.Left.length lc1, .bool a.Open, .int .i64 a.Eager, .slice (some ⟨g, 0, none⟩) (a.Holds.length + 1) c4, .bool a.Swept, .int .i64 a.Winner, .bool a.Done] 24)).alloc (.cells #[.int .i64 4, .int .i64 M] 26)).alloc (.cells #[.int .i64 0, .slice none 0 0, .bool false, .int .i64 0, .slice none 0 0, .bool false, .int .i64 0, .bool false] 24)).ext D5) (some ⟨g, 0, none⟩) c4 (sorted (a.Holds ++ [M]))) := Lib.hid (by unfold OI; rw [sorted_len, hlen1.out]; exact own_low ho5 (by first | omega | (simp <;> omega)))
        clear ho5 hg5 hs rL rH
        go_wp2
        go_meet
        case rel => exact ⟨la1, some ⟨g, 0, none⟩, none, lc1, c4, 0, D5, rfl, by simp [sorted_len], oL5, oH5, Lib.hid (OV.nil _)⟩
    focus
      have hq' : q = settle { a with Holds := without a.Holds M } := hq.out
      have hc0 := Lib.hid (without_ok a.Holds M ha1 hc1 _ (by omega) (wH.out #[.int .i64 a.Members, .slice la1 a.Left.length lc1, .bool a.Open, .int .i64 a.Eager, .slice ha1 a.Holds.length hc1, .bool a.Swept, .int .i64 a.Winner, .bool a.Done]).rep)
      go_wp2_with fail
      refine Calls.mono hc0.out ?_
      rintro _ _ ⟨a2, c2, rfl, ⟨d2, rfl⟩, ho⟩
      have hz5 : Hid ((((((w.alloc (.cells #[.int .i64 a.Members, .slice la1 a.Left.length lc1, .bool a.Open, .int .i64 a.Eager, .slice ha1 a.Holds.length hc1, .bool a.Swept, .int .i64 a.Winner, .bool a.Done] 24)).alloc (.cells #[.int .i64 5, .int .i64 M] 26)).alloc (.cells #[.int .i64 0, .slice none 0 0, .bool false, .int .i64 0, .slice none 0 0, .bool false, .int .i64 0, .bool false] 24)).ext D).ext d2).heap[w.heap.size]? = some (.cells #[.int .i64 a.Members, .slice la1 a.Left.length lc1, .bool a.Open, .int .i64 a.Eager, .slice ha1 a.Holds.length hc1, .bool a.Swept, .int .i64 a.Winner, .bool a.Done] 24)) := Lib.hid (heap_ext1 (heap_ext1 (heap_alloc1 (heap_alloc1 (heap_new _ _ rfl)))))
      have oH : OI B (((((w.alloc (.cells #[.int .i64 a.Members, .slice la1 a.Left.length lc1, .bool a.Open, .int .i64 a.Eager, .slice a2 (without a.Holds M).length c2, .bool a.Swept, .int .i64 a.Winner, .bool a.Done] 24)).alloc (.cells #[.int .i64 5, .int .i64 M] 26)).alloc (.cells #[.int .i64 0, .slice none 0 0, .bool false, .int .i64 0, .slice none 0 0, .bool false, .int .i64 0, .bool false] 24)).ext D).ext d2) a2 c2 (without a.Holds M) := OI.turnA (own_low ho (by first | omega | (simp <;> omega))) (b := w.heap.size) (by (repeat (first | exact Like.refl _ _ | refine Like.ext ?_ _ | refine Like.alloc ?_ _ | refine Like.swap ?_ (by simp <;> omega) _ _))) hz5.out
      have oL := (wL.out #[.int .i64 a.Members, .slice la1 a.Left.length lc1, .bool a.Open, .int .i64 a.Eager, .slice a2 (without a.Holds M).length c2, .bool a.Swept, .int .i64 a.Winner, .bool a.Done]).ext (Ext.ext (Ext.refl _) d2)
      have hc := Lib.hid (settle_ok { a with Holds := without a.Holds M } la1 a2 lc1 c2 _ (by simp only; omega) oL oH (fun hs _ h => by have := hop.out (hsw.out hs); simp only at h; rw [h] at this; simp at this))
      rw [← hq'] at hc
      clear hq' wL wH hub hdis hc0 ho hz5 oH oL
      go_wp2_with fail
      refine Calls.mono hc.out ?_
      rintro _ _ ⟨u, rfl, ⟨d3, rfl⟩, ⟨la', lc', ha', hc', va, vc, rfl, u1, u2, u3⟩⟩
      have hzc : Hid ((((((w.alloc (.cells #[.int .i64 a.Members, .slice la1 a.Left.length lc1, .bool a.Open, .int .i64 a.Eager, .slice a2 (without a.Holds M).length c2, .bool a.Swept, .int .i64 a.Winner, .bool a.Done] 24)).alloc (.cells #[.int .i64 5, .int .i64 M] 26)).alloc (.cells #[.int .i64 0, .slice none 0 0, .bool false, .int .i64 0, .slice none 0 0, .bool false, .int .i64 0, .bool false] 24)).ext D).ext d2).heap[w.heap.size]? = some (.cells #[.int .i64 a.Members, .slice la1 a.Left.length lc1, .bool a.Open, .int .i64 a.Eager, .slice a2 (without a.Holds M).length c2, .bool a.Swept, .int .i64 a.Winner, .bool a.Done] 24)) := Lib.hid (heap_ext1 (heap_ext1 (heap_alloc1 (heap_alloc1 (heap_new _ _ rfl)))))
      have x1 := Lib.hid (u1.turnA (w' := (((((w.alloc (.cells #[.int .i64 (q.1).Members, .slice la' (q.1).Left.length lc', .bool (q.1).Open, .int .i64 (q.1).Eager, .slice ha' (q.1).Holds.length hc', .bool (q.1).Swept, .int .i64 (q.1).Winner, .bool (q.1).Done] 24)).alloc (.cells #[.int .i64 5, .int .i64 M] 26)).alloc (.cells #[.int .i64 0, .slice none 0 0, .bool false, .int .i64 0, .slice none 0 0, .bool false, .int .i64 0, .bool false] 24)).ext D).ext d2).ext d3) (b := w.heap.size) (by (repeat (first | exact Like.refl _ _ | refine Like.ext ?_ _ | refine Like.alloc ?_ _ | refine Like.swap ?_ (by simp <;> omega) _ _))) (heap_ext1 hzc.out))
      have x2 := Lib.hid (u2.turnA (w' := (((((w.alloc (.cells #[.int .i64 (q.1).Members, .slice la' (q.1).Left.length lc', .bool (q.1).Open, .int .i64 (q.1).Eager, .slice ha' (q.1).Holds.length hc', .bool (q.1).Swept, .int .i64 (q.1).Winner, .bool (q.1).Done] 24)).alloc (.cells #[.int .i64 5, .int .i64 M] 26)).alloc (.cells #[.int .i64 0, .slice none 0 0, .bool false, .int .i64 0, .slice none 0 0, .bool false, .int .i64 0, .bool false] 24)).ext D).ext d2).ext d3) (b := w.heap.size) (by (repeat (first | exact Like.refl _ _ | refine Like.ext ?_ _ | refine Like.alloc ?_ _ | refine Like.swap ?_ (by simp <;> omega) _ _))) (heap_ext1 hzc.out))
      have x3 := Lib.hid (u3.turnA (w' := (((((w.alloc (.cells #[.int .i64 (q.1).Members, .slice la' (q.1).Left.length lc', .bool (q.1).Open, .int .i64 (q.1).Eager, .slice ha' (q.1).Holds.length hc', .bool (q.1).Swept, .int .i64 (q.1).Winner, .bool (q.1).Done] 24)).alloc (.cells #[.int .i64 5, .int .i64 M] 26)).alloc (.cells #[.int .i64 0, .slice none 0 0, .bool false, .int .i64 0, .slice none 0 0, .bool false, .int .i64 0, .bool false] 24)).ext D).ext d2).ext d3) (b := w.heap.size) (by (repeat (first | exact Like.refl _ _ | refine Like.ext ?_ _ | refine Like.alloc ?_ _ | refine Like.swap ?_ (by simp <;> omega) _ _))) (heap_ext1 hzc.out))
      clear u1 u2 u3 hzc
      go_wp2
      go_meet
      case rel => exact ⟨la', ha', va, lc', hc', vc, (D.add d2).add d3, rfl, by simp only [World.ext_ext], x1, x2, x3⟩
    focus
      have hq' : q = settle { a with Swept := true } := hq.out
      have ho := hk6o.out rfl
      have hc := Lib.hid (settle_ok { a with Swept := true } la1 ha1 lc1 hc1 _ (by simp only; omega) (wL.out #[.int .i64 a.Members, .slice la1 a.Left.length lc1, .bool a.Open, .int .i64 a.Eager, .slice ha1 a.Holds.length hc1, .bool true, .int .i64 a.Winner, .bool a.Done]) (wH.out #[.int .i64 a.Members, .slice la1 a.Left.length lc1, .bool a.Open, .int .i64 a.Eager, .slice ha1 a.Holds.length hc1, .bool true, .int .i64 a.Winner, .bool a.Done]) (fun _ _ h => by have := hop.out ho; simp only at h; rw [h] at this; simp at this))
      rw [← hq'] at hc
      clear hq' wL wH hub hdis ho
      go_wp2_with fail
      refine Calls.mono hc.out ?_
      rintro _ _ ⟨u, rfl, ⟨d2, rfl⟩, ⟨la', lc', ha', hc', va, vc, rfl, u1, u2, u3⟩⟩
      have hzc : Hid (((((w.alloc (.cells #[.int .i64 a.Members, .slice la1 a.Left.length lc1, .bool a.Open, .int .i64 a.Eager, .slice ha1 a.Holds.length hc1, .bool true, .int .i64 a.Winner, .bool a.Done] 24)).alloc (.cells #[.int .i64 6, .int .i64 M] 26)).alloc (.cells #[.int .i64 0, .slice none 0 0, .bool false, .int .i64 0, .slice none 0 0, .bool false, .int .i64 0, .bool false] 24)).ext D).heap[w.heap.size]? = some (.cells #[.int .i64 a.Members, .slice la1 a.Left.length lc1, .bool a.Open, .int .i64 a.Eager, .slice ha1 a.Holds.length hc1, .bool true, .int .i64 a.Winner, .bool a.Done] 24)) := Lib.hid (heap_ext1 (heap_alloc1 (heap_alloc1 (heap_new _ _ rfl))))
      have x1 := Lib.hid (u1.turnA (w' := ((((w.alloc (.cells #[.int .i64 (q.1).Members, .slice la' (q.1).Left.length lc', .bool (q.1).Open, .int .i64 (q.1).Eager, .slice ha' (q.1).Holds.length hc', .bool (q.1).Swept, .int .i64 (q.1).Winner, .bool (q.1).Done] 24)).alloc (.cells #[.int .i64 6, .int .i64 M] 26)).alloc (.cells #[.int .i64 0, .slice none 0 0, .bool false, .int .i64 0, .slice none 0 0, .bool false, .int .i64 0, .bool false] 24)).ext D).ext d2) (b := w.heap.size) (by (repeat (first | exact Like.refl _ _ | refine Like.ext ?_ _ | refine Like.alloc ?_ _ | refine Like.swap ?_ (by simp <;> omega) _ _))) (heap_ext1 hzc.out))
      have x2 := Lib.hid (u2.turnA (w' := ((((w.alloc (.cells #[.int .i64 (q.1).Members, .slice la' (q.1).Left.length lc', .bool (q.1).Open, .int .i64 (q.1).Eager, .slice ha' (q.1).Holds.length hc', .bool (q.1).Swept, .int .i64 (q.1).Winner, .bool (q.1).Done] 24)).alloc (.cells #[.int .i64 6, .int .i64 M] 26)).alloc (.cells #[.int .i64 0, .slice none 0 0, .bool false, .int .i64 0, .slice none 0 0, .bool false, .int .i64 0, .bool false] 24)).ext D).ext d2) (b := w.heap.size) (by (repeat (first | exact Like.refl _ _ | refine Like.ext ?_ _ | refine Like.alloc ?_ _ | refine Like.swap ?_ (by simp <;> omega) _ _))) (heap_ext1 hzc.out))
      have x3 := Lib.hid (u3.turnA (w' := ((((w.alloc (.cells #[.int .i64 (q.1).Members, .slice la' (q.1).Left.length lc', .bool (q.1).Open, .int .i64 (q.1).Eager, .slice ha' (q.1).Holds.length hc', .bool (q.1).Swept, .int .i64 (q.1).Winner, .bool (q.1).Done] 24)).alloc (.cells #[.int .i64 6, .int .i64 M] 26)).alloc (.cells #[.int .i64 0, .slice none 0 0, .bool false, .int .i64 0, .slice none 0 0, .bool false, .int .i64 0, .bool false] 24)).ext D).ext d2) (b := w.heap.size) (by (repeat (first | exact Like.refl _ _ | refine Like.ext ?_ _ | refine Like.alloc ?_ _ | refine Like.swap ?_ (by simp <;> omega) _ _))) (heap_ext1 hzc.out))
      clear u1 u2 u3 hzc
      go_wp2
      go_meet
      case rel => exact ⟨la', ha', va, lc', hc', vc, D.add d2, rfl, World.ext_ext _ _ _, x1, x2, x3⟩
  case rest =>
    obtain ⟨la', ha', va, lc', hc', vc, D', rfl, hwc, x1, x2, x3⟩ := hcut
    subst hwc
    have hz : ((((w.alloc (.cells #[.int .i64 (q.1).Members, .slice la' (q.1).Left.length lc', .bool (q.1).Open, .int .i64 (q.1).Eager, .slice ha' (q.1).Holds.length hc', .bool (q.1).Swept, .int .i64 (q.1).Winner, .bool (q.1).Done] 24)).alloc (.cells #[.int .i64 K, .int .i64 M] 26)).alloc (.cells #[.int .i64 0, .slice none 0 0, .bool false, .int .i64 0, .slice none 0 0, .bool false, .int .i64 0, .bool false] 24)).ext D').heap[w.heap.size + 1 + 1]? = some (.cells #[.int .i64 0, .slice none 0 0, .bool false, .int .i64 0, .slice none 0 0, .bool false, .int .i64 0, .bool false] 24) := heap_ext1 (heap_new _ _ (by simp))
    have y1 := Lib.hid (x1.out.turnA (w' := (((w.alloc (.cells #[.int .i64 (q.1).Members, .slice la' (q.1).Left.length lc', .bool (q.1).Open, .int .i64 (q.1).Eager, .slice ha' (q.1).Holds.length hc', .bool (q.1).Swept, .int .i64 (q.1).Winner, .bool (q.1).Done] 24)).alloc (.cells #[.int .i64 K, .int .i64 M] 26)).alloc (.cells #[.int .i64 (q.1).Members, .slice la' (q.1).Left.length lc', .bool (q.1).Open, .int .i64 (q.1).Eager, .slice ha' (q.1).Holds.length hc', .bool (q.1).Swept, .int .i64 (q.1).Winner, .bool (q.1).Done] 24)).ext D') (b := w.heap.size + 1 + 1) (by (repeat (first | exact Like.refl _ _ | refine Like.ext ?_ _ | refine Like.alloc ?_ _ | refine Like.swap ?_ (by simp <;> omega) _ _))) hz)
    have y2 := Lib.hid (x2.out.turnA (w' := (((w.alloc (.cells #[.int .i64 (q.1).Members, .slice la' (q.1).Left.length lc', .bool (q.1).Open, .int .i64 (q.1).Eager, .slice ha' (q.1).Holds.length hc', .bool (q.1).Swept, .int .i64 (q.1).Winner, .bool (q.1).Done] 24)).alloc (.cells #[.int .i64 K, .int .i64 M] 26)).alloc (.cells #[.int .i64 (q.1).Members, .slice la' (q.1).Left.length lc', .bool (q.1).Open, .int .i64 (q.1).Eager, .slice ha' (q.1).Holds.length hc', .bool (q.1).Swept, .int .i64 (q.1).Winner, .bool (q.1).Done] 24)).ext D') (b := w.heap.size + 1 + 1) (by (repeat (first | exact Like.refl _ _ | refine Like.ext ?_ _ | refine Like.alloc ?_ _ | refine Like.swap ?_ (by simp <;> omega) _ _))) hz)
    have y3 := Lib.hid (x3.out.turnA (w' := (((w.alloc (.cells #[.int .i64 (q.1).Members, .slice la' (q.1).Left.length lc', .bool (q.1).Open, .int .i64 (q.1).Eager, .slice ha' (q.1).Holds.length hc', .bool (q.1).Swept, .int .i64 (q.1).Winner, .bool (q.1).Done] 24)).alloc (.cells #[.int .i64 K, .int .i64 M] 26)).alloc (.cells #[.int .i64 (q.1).Members, .slice la' (q.1).Left.length lc', .bool (q.1).Open, .int .i64 (q.1).Eager, .slice ha' (q.1).Holds.length hc', .bool (q.1).Swept, .int .i64 (q.1).Winner, .bool (q.1).Done] 24)).ext D') (b := w.heap.size + 1 + 1) (by (repeat (first | exact Like.refl _ _ | refine Like.ext ?_ _ | refine Like.alloc ?_ _ | refine Like.swap ?_ (by simp <;> omega) _ _))) hz)
    clear x1 x2 x3 hz wL wH
    go_wp2
    (refine bodyPost_ret (v := ?_) (by simp [results, Try.results21, go_sem]; rfl) rfl ?_)
    refine ⟨la', lc', ha', hc', va, vc, rfl, ?_, y1.out, y2.out, y3.out⟩
    (repeat (first | exact Ext.refl _ | assumption | refine Ext.alloc ?_ _ | refine Ext.ext ?_ _ | refine Ext.drew ?_))
end Go.Proofs.Ytcnmljpabmgieaa.R
