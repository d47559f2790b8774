/- The reference's arena: Step, the event 3. -/
import Derived.Test.YtcnmljpabmgieaaAr33
import Derived.Deep.DeepCutAuto
import Derived.WalkKit
import Derived.WalkSpells
import Derived.WalkLawsBesides
import Derived.Deep.QuietTactic
import Derived.BigQuiet
import Derived.BigRegion
import Derived.Lib.Hide
import Derived.Deep.RegionWith
set_option linter.unusedSimpArgs false
set_option linter.unusedVariables false
namespace Go.Proofs.Ytcnmljpabmgieaa.R
open Go.RowKit
def WQ (w : World) (M : Int) (z z' : Array Value) : World := ((w.alloc (.cells z 24)).alloc (.cells #[.int .i64 3, .int .i64 M] 26)).alloc (.cells z' 24)
theorem rwithout_mk (B : Nat) (l : List Int) (m : Int) (a : Option Addr) (cap : Nat) (w : World) (hl : l.length ≤ 1000000) (h : RepI w a l) (hB : B ≤ w.heap.size) :
    Calls Try.prog 43 #[.slice a l.length cap, .int .i64 m] w fun x w' => ∃ u, x = .returned u ∧ Ext w w' ∧ LiF B (without l m) u w' ∧ ∀ b, u.blk = some b → w.heap.size ≤ b ∧ b < w'.heap.size := by
  refine (rWithout_ok l m a cap w hl h).mono ?_
  rintro x w' ⟨a', c', rfl, he, ho⟩
  exact ⟨_, rfl, he, ⟨a', c', rfl, own_low ho hB⟩, own_blk ho⟩
theorem RV.turn2 {B k : Nat} {w w' : World} {b c : Nat} {y z : Array Value} {v : Value} {xs : List Value} (h : w.ownsRow B 45 2 v k xs) (hl : Like (fun k => k = b ∨ k = c) w w') (hb : w.heap[b]? = some (.cells y 24)) (hc : w.heap[c]? = some (.cells z 24)) : w'.ownsRow B 45 2 v k xs :=
  ownsRow_like h hl (fun k hk e => by
    rcases e with e | e
    · exact own_other h hb (by decide) k hk e
    · exact own_other h hc (by decide) k hk e)
theorem wq_like (w : World) (M : Int) (z z' y y' : Array Value) : Like (fun k => k = w.heap.size ∨ k = w.heap.size + 2) (WQ w M z z') (WQ w M y y') := by
  unfold WQ
  exact Like.swap (Like.alloc (Like.swap (Like.refl _ _) (.inl rfl) _ _) _) (.inr (by simp)) _ _
theorem wq_0 (w : World) (M : Int) (z z' : Array Value) : (WQ w M z z').heap[w.heap.size]? = some (.cells z 24) := heap_alloc1 (heap_alloc1 (heap_new _ _ rfl))
theorem wq_2 (w : World) (M : Int) (z z' : Array Value) : (WQ w M z z').heap[w.heap.size + 2]? = some (.cells z' 24) := heap_new _ _ (by simp)
set_option maxRecDepth 100000 in
set_option maxHeartbeats 4000000 in
theorem rStep3 (Φ : World → Option Addr → Nat → List Int → Prop) (hΦ : Rows Φ) (a : Arn) (M : Int) (la ha : Option Addr) (lc hc : Nat) (w : World) (h1 : Φ w la lc a.Left) (h2 : Φ w ha hc a.Holds) (hr : refuse a ⟨3, M⟩ = 0) :
    Calls Try.prog 23 #[.agg #[.int .i64 (a).Members, .slice la (a).Left.length lc, .bool (a).Open, .int .i64 (a).Eager, .slice ha (a).Holds.length hc, .bool (a).Swept, .int .i64 (a).Winner, .bool (a).Done], .agg #[.int .i64 3, .int .i64 M]] w fun x w' => ∃ la' lc' ha' hc' va vc, x = .returned (.tuple #[.agg #[.int .i64 ((act a ⟨3, M⟩).1).Members, .slice la' ((act a ⟨3, M⟩).1).Left.length lc', .bool ((act a ⟨3, M⟩).1).Open, .int .i64 ((act a ⟨3, M⟩).1).Eager, .slice ha' ((act a ⟨3, M⟩).1).Holds.length hc', .bool ((act a ⟨3, M⟩).1).Swept, .int .i64 ((act a ⟨3, M⟩).1).Winner, .bool ((act a ⟨3, M⟩).1).Done], .slice va (act a ⟨3, M⟩).2.length vc, .int .i64 0]) ∧ Ext w w' ∧ Φ w' la' lc' (act a ⟨3, M⟩).1.Left ∧ Φ w' ha' hc' (act a ⟨3, M⟩).1.Holds ∧ OV w' va vc (act a ⟨3, M⟩).2 := by
  obtain ⟨hv, hd, -, -, -, -, -, -⟩ := refuse_zero hr
  have hll := left_len hv
  have hlh := holds_len hv
  have hck := fun w' (he : Ext w w') => rCheck_ok a la ha lc hc w' (by omega) (by omega) (hΦ.rep (hΦ.ext h1 he)) (hΦ.rep (hΦ.ext h2 he))
  have hrf := fun w' (he : Ext w w') => rRef_ok a 3 M la ha lc hc w' (by omega) (by omega) (hΦ.rep (hΦ.ext h1 he)) (hΦ.rep (hΦ.ext h2 he))
  rw [(check_zero a).2 hv] at hck
  rw [rref_eq a _ ((check_zero a).2 hv), hr] at hrf
  replace hck := Lib.hid hck
  replace hrf := Lib.hid hrf
  obtain ⟨q, hq⟩ : ∃ q, q = act a ⟨3, M⟩ := ⟨_, rfl⟩
  rw [← hq]
  rw [← ract_eq a _ hr] at hq
  unfold ract at hq
  have hl1 := Lib.hid fun w' (he : Ext w w') => hΦ.ext h1 he
  have hl2 := Lib.hid fun w' (he : Ext w w') => hΦ.ext h2 he
  obtain ⟨-, -, -, -, hm3, -, -, -⟩ := refuse_zero hr
  have hL2 : Hid (a.Open = false → without a.Left M ≠ []) := Lib.hid fun ho h => by
    have := hv.two ho hd
    have h3 := wo_len hv.left (hm3 (.inr (.inl rfl)))
    rw [h] at h3
    simp at h3
    omega
  simp only [show ((3 : Int) = 1) = False by simp, show ((3 : Int) = 2) = False by simp, if_false, if_true] at hq
  have hw1 := fun w' (he : Ext w w') => rwithout_mk (w.heap.size + 3) a.Left M la lc w' (by omega) (hΦ.rep (hΦ.ext h1 he))
  have hw2 := fun w' (he : Ext w w') => rwithout_mk (w.heap.size + 3) a.Holds M ha hc w' (by omega) (hΦ.rep (hΦ.ext h2 he))
  clear h1 h2 hv hr hd hm3
  obtain ⟨n, hn⟩ : ∃ n, n = a.Left.length := ⟨_, rfl⟩
  obtain ⟨nh, hnh⟩ : ∃ n, n = a.Holds.length := ⟨_, rfl⟩
  obtain ⟨L, hL⟩ : ∃ L, L = without a.Left M := ⟨_, rfl⟩
  obtain ⟨H, hH⟩ : ∃ H, H = without a.Holds M := ⟨_, rfl⟩
  have hLl : L.length ≤ 24 := by rw [hL]; unfold without; exact Nat.le_trans (List.length_filter_le _ _) hll
  have hHl : H.length ≤ 24 := by rw [hH]; unfold without; exact Nat.le_trans (List.length_filter_le _ _) hlh
  rw [← hn] at hck hrf hw1 hll ⊢
  rw [← hnh] at hck hrf hw2 hlh ⊢
  rw [← hL] at hw1 hq hL2
  rw [← hH] at hw2 hq
  replace hn := Lib.hid hn
  replace hnh := Lib.hid hnh
  replace hw1 := Lib.hid hw1
  replace hw2 := Lib.hid hw2
  replace hq := Lib.hid hq
  clear hL hH
  (go_enter Try.func23, Try.ntmps23; (go_wp2_with fail); (refine Calls.mono (hck.out _ (by (repeat (first | exact Ext.refl _ | assumption | refine Ext.alloc ?_ _ | refine Ext.ext ?_ _ | refine Ext.drew ?_)))) ?_); (rintro _ _ ⟨rfl, D1, rfl⟩); (go_wp2_with fail); (refine Calls.mono (hrf.out _ (by (repeat (first | exact Ext.refl _ | assumption | refine Ext.alloc ?_ _ | refine Ext.ext ?_ _ | refine Ext.drew ?_)))) ?_); (rintro _ _ ⟨rfl, D2, rfl⟩))
  go_upto_region 24 with (at_builtin; refine wpList_append_row _ _ _ 30 45 _ 2 16 infoV Try.underlying30 rfl (by decide) (w.heap.size + 3) _ 0 _ (World.ownsRow_nil _ _ _ _) ⟨_, 0, none⟩ 1 1 [.int .i64 M, .bool false] (by decide) rfl (cells_at2 (heap_new _ _ (by simp)) rfl) (by simp [Value.oneCell']) (by unfold maxLen; omega) (by omega) (by simp <;> omega) rfl rfl rfl rfl ?_; intro g2 c2 w2 hown hg2; (have he2 : Ext (WQ w M #[.int .i64 a.Members, .slice la n lc, .bool a.Open, .int .i64 a.Eager, .slice ha nh hc, .bool a.Swept, .int .i64 a.Winner, .bool a.Done] #[.int .i64 0, .slice none 0 0, .bool false, .int .i64 0, .slice none 0 0, .bool false, .int .i64 0, .bool false]) w2 := Ext.of_grown (by unfold WQ; (repeat (first | exact Ext.refl _ | assumption | refine Ext.alloc ?_ _ | refine Ext.ext ?_ _ | refine Ext.drew ?_))) hg2 (fun k hk => by cases hk)); obtain ⟨D3, hD3⟩ := he2; unfold WQ at hD3; subst hD3; replace hown := Lib.hid hown; clear hg2)
  (refine wp_region_segs (fun i => if i = 4 then some (LiF (w.heap.size + 3) L, LiS L) else if i = 9 then some (LiF (w.heap.size + 3) H, LiS H) else none) [([0, 1, 2, 3], .m, 4), ([5, 6, 7, 8], .m, 9)] [10] [] [11, 12, 13] (by kernel_rfl) (by kernel_rfl) (by simp only [List.map_cons, List.map_nil, List.filterMap_cons, List.filterMap_nil, List.getElem?_toArray, List.getElem?_cons_succ, List.getElem?_cons_zero]; try exact rfl) (by simp only [List.filterMap_cons, List.filterMap_nil, List.getElem?_toArray, List.getElem?_cons_succ, List.getElem?_cons_zero]; try exact rfl) (by simp only [List.filterMap_cons, List.filterMap_nil, List.getElem?_toArray, List.getElem?_cons_succ, List.getElem?_cons_zero]; try exact rfl) (by simp only [List.filterMap_cons, List.filterMap_nil, List.getElem?_toArray, List.getElem?_cons_succ, List.getElem?_cons_zero]; try exact rfl) (by decide) ?_)
  (refine sg_m ?_; (repeat (first | (refine ql_plain rfl rfl ?_; intro K hK; go_big_quiet_op; go_big_quiet_on) | (refine ql_nilCheck rfl rfl rfl ?_; intro K hK; simp only [Act.put, List.setIfInBounds_toArray, List.set_cons_succ, List.set_cons_zero]; go_big_quiet_on) | fail | (refine ql_skip rfl ?_; intro K hK; simp only [Act.put, List.setIfInBounds_toArray, List.set_cons_succ, List.set_cons_zero]; go_big_quiet_on))); refine ql_nil ?_)
  (refine sg_call (f := 43) (LiF (w.heap.size + 3) L) (LiS L) rfl (LiF.shp (w.heap.size + 3) L) (LiF.stable (w.heap.size + 3) L) (fun d => hw1.out _ (by (repeat (first | exact Ext.refl _ | assumption | refine Ext.alloc ?_ _ | refine Ext.ext ?_ _ | refine Ext.drew ?_))) (by simp <;> omega)) (by simp only [List.getElem?_toArray, List.getElem?_cons_succ, List.getElem?_cons_zero]; try exact rfl) rfl rfl Try.func43 rfl (by kernel_rfl) rfl ?_; intro u hu hS K hK; obtain ⟨la1, lc1, rfl⟩ := hS; simp only [Act.put, List.setIfInBounds_toArray, List.set_cons_succ, List.set_cons_zero]; refine hK _ ?_; clear hK K)
  (refine sg_m ?_; (repeat (first | (refine ql_plain rfl rfl ?_; intro K hK; go_big_quiet_op; go_big_quiet_on) | (refine ql_nilCheck rfl rfl rfl ?_; intro K hK; simp only [Act.put, List.setIfInBounds_toArray, List.set_cons_succ, List.set_cons_zero]; go_big_quiet_on) | fail | (refine ql_skip rfl ?_; intro K hK; simp only [Act.put, List.setIfInBounds_toArray, List.set_cons_succ, List.set_cons_zero]; go_big_quiet_on))); refine ql_nil ?_)
  (refine sg_call (f := 43) (LiF (w.heap.size + 3) H) (LiS H) rfl (LiF.shp (w.heap.size + 3) H) (LiF.stable (w.heap.size + 3) H) (fun d => hw2.out _ (by (repeat (first | exact Ext.refl _ | assumption | refine Ext.alloc ?_ _ | refine Ext.ext ?_ _ | refine Ext.drew ?_))) (by simp <;> omega)) (by simp only [List.getElem?_toArray, List.getElem?_cons_succ, List.getElem?_cons_zero]; try exact rfl) rfl rfl Try.func43 rfl (by kernel_rfl) rfl ?_; intro u hu hS K hK; obtain ⟨ha1, hc1, rfl⟩ := hS; simp only [Act.put, List.setIfInBounds_toArray, List.set_cons_succ, List.set_cons_zero]; refine hK _ ?_; clear hK K)
  (refine sg_last ?_; (repeat (first | (refine ql_plain rfl rfl ?_; intro K hK; go_big_quiet_op; go_big_quiet_on) | (refine ql_nilCheck rfl rfl rfl ?_; intro K hK; simp only [Act.put, List.setIfInBounds_toArray, List.set_cons_succ, List.set_cons_zero]; go_big_quiet_on) | fail | (refine ql_skip rfl ?_; intro K hK; simp only [Act.put, List.setIfInBounds_toArray, List.set_cons_succ, List.set_cons_zero]; go_big_quiet_on))); refine ql_nil ?_; (repeat (first | (refine pl_plain rfl rfl ?_; intro K hK; go_big_quiet_op; go_big_quiet_on) | (refine pl_nilCheck rfl rfl rfl ?_; intro K hK; simp only [Act.put, List.setIfInBounds_toArray, List.set_cons_succ, List.set_cons_zero]; go_big_quiet_on))); refine pl_nil ?_)
  rintro w1 ⟨d, rfl⟩ ⟨⟨_, f1⟩, f2⟩
  have hb1 := heap_ext1 (d := d) (heap_ext1 (d := D3) (wq_0 w M #[.int .i64 a.Members, .slice la n lc, .bool a.Open, .int .i64 a.Eager, .slice ha nh hc, .bool a.Swept, .int .i64 a.Winner, .bool a.Done] #[.int .i64 0, .slice none 0 0, .bool false, .int .i64 0, .slice none 0 0, .bool false, .int .i64 0, .bool false]))
  have hb2 := heap_ext1 (d := d) (heap_ext1 (d := D3) (wq_2 w M #[.int .i64 a.Members, .slice la n lc, .bool a.Open, .int .i64 a.Eager, .slice ha nh hc, .bool a.Swept, .int .i64 a.Winner, .bool a.Done] #[.int .i64 0, .slice none 0 0, .bool false, .int .i64 0, .slice none 0 0, .bool false, .int .i64 0, .bool false]))
  have wL := Lib.hid fun z z' => f1.use.turn2 (w' := ((WQ w M z z').ext D3).ext d) (Like.ext (Like.ext (wq_like w M #[.int .i64 a.Members, .slice la n lc, .bool a.Open, .int .i64 a.Eager, .slice ha nh hc, .bool a.Swept, .int .i64 a.Winner, .bool a.Done] #[.int .i64 0, .slice none 0 0, .bool false, .int .i64 0, .slice none 0 0, .bool false, .int .i64 0, .bool false] z z') D3) d) hb1 hb2
  have wH := Lib.hid fun z z' => f2.use.turn2 (w' := ((WQ w M z z').ext D3).ext d) (Like.ext (Like.ext (wq_like w M #[.int .i64 a.Members, .slice la n lc, .bool a.Open, .int .i64 a.Eager, .slice ha nh hc, .bool a.Swept, .int .i64 a.Winner, .bool a.Done] #[.int .i64 0, .slice none 0 0, .bool false, .int .i64 0, .slice none 0 0, .bool false, .int .i64 0, .bool false] z z') D3) d) hb1 hb2
  have wV := Lib.hid fun z z' => RV.turn2 (w' := ((WQ w M z z').ext D3).ext d) (ownsRow_ext hown.out (Ext.ext (Ext.refl _) d)) (Like.ext (Like.ext (wq_like w M #[.int .i64 a.Members, .slice la n lc, .bool a.Open, .int .i64 a.Eager, .slice ha nh hc, .bool a.Swept, .int .i64 a.Winner, .bool a.Done] #[.int .i64 0, .slice none 0 0, .bool false, .int .i64 0, .slice none 0 0, .bool false, .int .i64 0, .bool false] z z') D3) d) hb1 hb2
  clear f1 f2 hown hb1 hb2 hw1 hw2
  go_wp2; refine only_normal ?_
  obtain ⟨E, hE⟩ : ∃ E, E = if a.Eager = M then -1 else a.Eager := ⟨_, rfl⟩
  go_upto_if 104 with fail
  go_cut [] (fun wc => wc = ((((w.alloc (.cells #[.int .i64 a.Members, .slice la1 L.length lc1, .bool a.Open, .int .i64 E, .slice ha1 H.length hc1, .bool a.Swept, .int .i64 a.Winner, .bool a.Done] 24)).alloc (.cells #[.int .i64 3, .int .i64 M] 26)).alloc (.cells #[.int .i64 0, .slice none 0 0, .bool false, .int .i64 0, .slice none 0 0, .bool false, .int .i64 0, .bool false] 24)).ext D3).ext d)
  case first =>
    rcases he : (a.Eager == M) with _ | _
    focus
      have hE2 : E = a.Eager := by rw [hE, if_neg (by simpa using he)]
      subst hE2
      clear hE
      go_wp2
      go_meet
      case rel => rfl
    focus
      have hE2 : E = -1 := by rw [hE, if_pos (by simpa using he)]
      subst hE2
      clear hE
      go_wp2
      go_meet
      case rel => rfl
  case rest =>
    rw [hcut]
    clear hcut wc
    rw [← hE] at hq
    clear hE
    go_upto_region 27 with fail
    go_cut [0, 124] (fun v0 v124 wc => ∃ t : Bool, v124 = .bool t ∧ Hid (t = (!a.Open && (decide (L.length = 1) || (a.Swept && decide (H.length = 0))))) ∧ wc = ((((w.alloc (.cells #[.int .i64 a.Members, .slice la1 L.length lc1, .bool a.Open, .int .i64 E, .slice ha1 H.length hc1, .bool a.Swept, .int .i64 a.Winner, .bool a.Done] 24)).alloc (.cells #[.int .i64 3, .int .i64 M] 26)).alloc (.cells #[.int .i64 0, .slice none 0 0, .bool false, .int .i64 0, .slice none 0 0, .bool false, .int .i64 0, .bool false] 24)).ext D3).ext d)
    case first =>
      rcases p1 : a.Open with _ | _
      rotate_left
      focus
        go_wp2
        go_meet
        case rel => exact ⟨_, rfl, Lib.hid (by simp only [p1]; rfl), by first | rfl | rw [p1]⟩
      rcases p2 : decide (L.length = 1) with _ | _
      rotate_left
      focus
        have q2 : ((L.length : Int) == 1) = true := by simp at p2 ⊢; omega
        replace p2 := Lib.hid p2
        go_wp2
        go_meet
        case rel => exact ⟨_, rfl, Lib.hid (by simp only [p1, p2.out]; rfl), by first | rfl | rw [p1]⟩
      have q2 : ((L.length : Int) == 1) = false := by simp at p2 ⊢; omega
      replace p2 := Lib.hid p2
      rcases p3 : a.Swept with _ | _
      focus
        go_wp2
        go_meet
        case rel => exact ⟨_, rfl, Lib.hid (by simp only [p1, p2.out, p3]; rfl), by first | rfl | rw [p1, p3] | rw [p1] | rw [p3]⟩
      rcases p4 : decide (H.length = 0) with _ | _
      focus
        have q4 : ((H.length : Int) == 0) = false := by simp at p4 ⊢; omega
        replace p4 := Lib.hid p4
        go_wp2
        go_meet
        case rel => exact ⟨_, rfl, Lib.hid (by simp only [p1, p2.out, p3, p4.out]; rfl), by first | rfl | rw [p1, p3] | rw [p1] | rw [p3]⟩
      focus
        have q4 : ((H.length : Int) == 0) = true := by simp at p4 ⊢; omega
        replace p4 := Lib.hid p4
        go_wp2
        go_meet
        case rel => exact ⟨_, rfl, Lib.hid (by simp only [p1, p2.out, p3, p4.out]; rfl), by first | rfl | rw [p1, p3] | rw [p1] | rw [p3]⟩
    case rest =>
      obtain ⟨t, rfl, ht, hwc⟩ := hcut
      rw [hwc]
      clear hwc wc
      rw [← ht.out] at hq
      cases t
      focus
        have hq2 : Hid (q = (⟨a.Members, L, a.Open, E, H, a.Swept, a.Winner, a.Done⟩, [⟨M, false⟩])) := Lib.hid (by rw [hq.out]; rfl)
        have xL := Lib.hid (wL.out #[.int .i64 a.Members, .slice la1 L.length lc1, .bool a.Open, .int .i64 E, .slice ha1 H.length hc1, .bool a.Swept, .int .i64 a.Winner, .bool a.Done] #[.int .i64 a.Members, .slice la1 L.length lc1, .bool a.Open, .int .i64 E, .slice ha1 H.length hc1, .bool a.Swept, .int .i64 a.Winner, .bool a.Done])
        have xH := Lib.hid (wH.out #[.int .i64 a.Members, .slice la1 L.length lc1, .bool a.Open, .int .i64 E, .slice ha1 H.length hc1, .bool a.Swept, .int .i64 a.Winner, .bool a.Done] #[.int .i64 a.Members, .slice la1 L.length lc1, .bool a.Open, .int .i64 E, .slice ha1 H.length hc1, .bool a.Swept, .int .i64 a.Winner, .bool a.Done])
        have xV := Lib.hid (wV.out #[.int .i64 a.Members, .slice la1 L.length lc1, .bool a.Open, .int .i64 E, .slice ha1 H.length hc1, .bool a.Swept, .int .i64 a.Winner, .bool a.Done] #[.int .i64 a.Members, .slice la1 L.length lc1, .bool a.Open, .int .i64 E, .slice ha1 H.length hc1, .bool a.Swept, .int .i64 a.Winner, .bool a.Done])
        unfold WQ at xL xH xV
        clear wL wH wV hq ht
        go_wp2
        (refine bodyPost_ret (v := ?_) (by simp [results, Try.results23, go_sem]; rfl) rfl ?_)
        obtain rfl := hq2.out
        exact ⟨la1, lc1, ha1, hc1, some ⟨g2, 0, none⟩, c2, rfl, by (repeat (first | exact Ext.refl _ | assumption | refine Ext.alloc ?_ _ | refine Ext.ext ?_ _ | refine Ext.drew ?_)), hΦ.own xL.out.low, hΦ.own xH.out.low, by have h := own_low xV.out (Nat.zero_le _); simpa [OV, vdL] using h⟩
      focus
        have ho2 : a.Open = false := by
          rcases ho : a.Open with _ | _
          · rfl
          · have := ht.out
            rw [ho] at this
            cases this
        have hLne := hL2.out ho2
        obtain ⟨x0, hx0⟩ : ∃ x0, x0 = L.headD 0 := ⟨_, rfl⟩
        obtain ⟨q1, hq1⟩ : ∃ q1, q1 = decideA ⟨a.Members, L, a.Open, E, H, a.Swept, a.Winner, a.Done⟩ x0 := ⟨_, rfl⟩
        have hq2 : Hid (q = (q1.1, ⟨M, false⟩ :: q1.2)) := Lib.hid (by rw [hq.out, hq1, hx0]; rfl)
        have hqL : Hid (q1.1.Left = [] ∧ q1.1.Holds = []) := Lib.hid (by rw [hq1]; exact ⟨rfl, rfl⟩)
        have xL := Lib.hid (wL.out #[.int .i64 a.Members, .slice la1 L.length lc1, .bool a.Open, .int .i64 E, .slice ha1 H.length hc1, .bool a.Swept, .int .i64 a.Winner, .bool a.Done] #[.int .i64 0, .slice none 0 0, .bool false, .int .i64 0, .slice none 0 0, .bool false, .int .i64 0, .bool false])
        have xV := Lib.hid (wV.out #[.int .i64 a.Members, .slice la1 L.length lc1, .bool a.Open, .int .i64 E, .slice ha1 H.length hc1, .bool a.Swept, .int .i64 a.Winner, .bool a.Done] #[.int .i64 0, .slice none 0 0, .bool false, .int .i64 0, .slice none 0 0, .bool false, .int .i64 0, .bool false])
        obtain ⟨g, rfl, c0, hgl⟩ := xL.out.head hLne
        rw [← hx0] at c0
        have hdm := fun w' (he : Ext ((WQ w M #[.int .i64 a.Members, .slice (some ⟨g, 0, none⟩) L.length lc1, .bool a.Open, .int .i64 E, .slice ha1 H.length hc1, .bool a.Swept, .int .i64 a.Winner, .bool a.Done] #[.int .i64 0, .slice none 0 0, .bool false, .int .i64 0, .slice none 0 0, .bool false, .int .i64 0, .bool false]).ext D3 |>.ext d) w') => rDecide_ok (w.heap.size + 3) ⟨a.Members, L, a.Open, E, H, a.Swept, a.Winner, a.Done⟩ x0 (some ⟨g, 0, none⟩) ha1 lc1 hc1 [⟨M, false⟩] (some ⟨g2, 0, none⟩) c2 w' (Nat.le_trans (by simp [WQ] <;> omega) he.size) (by simp only; omega) (by simp) (.inr (xL.out.ext he).low) (by have h := ownsRow_ext xV.out he; exact h)
        rw [← hq1] at hdm
        simp only [List.length_cons, List.length_nil, Nat.zero_add] at hdm
        replace hdm := Lib.hid hdm
        have hpos : 0 < L.length := List.length_pos_iff.2 hLne
        unfold WQ at hdm c0 hgl
        clear wL wH wV hq ht hLne hx0 hq1 ho2 xL xV hL2
        go_upto_region 28 with fail
        refine gen_at5 (p := fun W => Code.wp _ _ _ _ W) ?_
        intro W hW
        rw [← hW] at hdm c0 hgl
        have hB : W.heap[w.heap.size]? = some (.cells #[.int .i64 a.Members, .slice (some ⟨g, 0, none⟩) L.length lc1, .bool a.Open, .int .i64 E, .slice ha1 H.length hc1, .bool a.Swept, .int .i64 a.Winner, .bool a.Done] 24) := by rw [hW]; exact heap_ext1 (heap_ext1 (wq_0 w M _ _))
        have hWX : Hid (Ext (WQ w M #[.int .i64 a.Members, .slice (some ⟨g, 0, none⟩) L.length lc1, .bool a.Open, .int .i64 E, .slice ha1 H.length hc1, .bool a.Swept, .int .i64 a.Winner, .bool a.Done] #[.int .i64 0, .slice none 0 0, .bool false, .int .i64 0, .slice none 0 0, .bool false, .int .i64 0, .bool false]) W) := Lib.hid (by rw [hW]; unfold WQ; (repeat (first | exact Ext.refl _ | assumption | refine Ext.alloc ?_ _ | refine Ext.ext ?_ _ | refine Ext.drew ?_)))
        have y0 := heap_cell hB 0
        have y1 := heap_cell hB 1
        have y2 := heap_cell hB 2
        have y3 := heap_cell hB 3
        have y4 := heap_cell hB 4
        have y5 := heap_cell hB 5
        have y6 := heap_cell hB 6
        have y7 := heap_cell hB 7
        simp only [List.getElem?_toArray, List.getElem?_cons_succ, List.getElem?_cons_zero] at y0 y1 y2 y3 y4 y5 y6 y7
        have yl := (Array.getElem?_eq_some_iff.1 hB).1
        clear hW hB
        go_region_with (go_at_call 42; refine Calls.mono (hdm.out _ ?_) ?_; (focus (repeat (first | exact Ext.refl _ | assumption | refine Ext.alloc ?_ _ | refine Ext.ext ?_ _ | refine Ext.drew ?_))); rintro _ wd ⟨va', vc', rfl, hX, hro⟩; obtain ⟨D5, hD5⟩ := hX (WQ w M #[.int .i64 a.Members, .slice (some ⟨g, 0, none⟩) L.length lc1, .bool a.Open, .int .i64 E, .slice ha1 H.length hc1, .bool a.Swept, .int .i64 a.Winner, .bool a.Done] #[.int .i64 0, .slice none 0 0, .bool false, .int .i64 0, .slice none 0 0, .bool false, .int .i64 0, .bool false]) (by simp [WQ]) (Ext.trans hWX.out (by (repeat (first | exact Ext.refl _ | assumption | refine Ext.alloc ?_ _ | refine Ext.ext ?_ _ | refine Ext.drew ?_)))); unfold WQ at hD5; subst hD5; replace hro := Lib.hid hro; clear hX)
        all_goals
          have hv := RV.turn2 (w' := (WQ w M #[.int .i64 (q1.1).Members, .slice none (q1.1).Left.length 0, .bool (q1.1).Open, .int .i64 (q1.1).Eager, .slice none (q1.1).Holds.length 0, .bool (q1.1).Swept, .int .i64 (q1.1).Winner, .bool (q1.1).Done] #[.int .i64 (q1.1).Members, .slice none (q1.1).Left.length 0, .bool (q1.1).Open, .int .i64 (q1.1).Eager, .slice none (q1.1).Holds.length 0, .bool (q1.1).Swept, .int .i64 (q1.1).Winner, .bool (q1.1).Done]).ext D5) hro.out (Like.ext (wq_like w M _ _ _ _) D5) (heap_ext1 (wq_0 w M _ _)) (heap_ext1 (wq_2 w M _ _))
          unfold WQ at hv
          replace hv := Lib.hid hv
          clear hro
          go_wp2
          (refine bodyPost_ret (v := ?_) (by simp [results, Try.results23, go_sem]; rfl) rfl ?_)
          obtain rfl := hq2.out
          refine ⟨none, 0, none, 0, va', vc', by rw [Nat.add_comm 1 q1.2.length]; rfl, by (repeat (first | exact Ext.refl _ | assumption | refine Ext.alloc ?_ _ | refine Ext.ext ?_ _ | refine Ext.drew ?_)), ?_, ?_, by have h := own_low hv.out (Nat.zero_le _); rw [Nat.add_comm 1 q1.2.length] at h; exact h⟩
          · rw [hqL.out.1]; exact hΦ.own (OI.nil 0 _)
          · rw [hqL.out.2]; exact hΦ.own (OI.nil 0 _)
end Go.Proofs.Ytcnmljpabmgieaa.R
