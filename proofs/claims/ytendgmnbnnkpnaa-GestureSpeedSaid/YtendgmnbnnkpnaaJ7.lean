/- begin, whole; down. -/
import Derived.Test.YtendgmnbnnkpnaaJ6
import Derived.WalkKit
import Derived.WalkSpells
import Derived.WalkLawsBesides
import Derived.Deep.QuietTactic
import Derived.BigQuiet
import Derived.BigRegion
import Derived.Lib.Hide
import Derived.Deep.RegionWith
set_option linter.unusedSimpArgs false
set_option linter.unusedVariables false
namespace Go.Proofs.Ytendgmnbnnkpnaa.G
open Go.RowKit
theorem MachS.ext0 {w0 w : World} {M : Nat} {r : Rec} {e : Ev} (hr : ROk r) (h : MachS w0 w M r e) {w' : World} (he : Ext w w') : Mach w0 w' M r e 0 [] := (h.weak hr).ext he
set_option maxHeartbeats 1000000 in
theorem beginF (w0 w : World) (M : Nat) (r : Rec) (e : Ev) (hl : room r.Kind ≤ r.Ts.length) (h : Mach w0 w M r e 0 []) :
    Calls Try.prog 84 #[.pointer (some ⟨M, 0, none⟩)] w fun x w' => ∃ v, x = .returned v ∧ Ext w w' := by
  obtain ⟨a, c, o, hM, hc, _⟩ := h.read
  have c0 : w.cell? ⟨M, 0, none⟩ = some (.int .i64 r.Kind) := hc 0 _ rfl
  have c4 : w.cell? ⟨M, 4, none⟩ = some (.slice a r.Ts.length c) := hc 4 _ rfl
  have hb : decide ((room r.Kind : Int) ≤ (r.Ts.length : Int)) = true := by simpa using hl
  have hb2 : decide (room r.Kind ≤ r.Ts.length) = true := by simpa using hl
  clear hc h hl
  go_enter Try.func84, Try.ntmps84
  go_wp2
  (refine wp_region_calm_ops [0, 1, 2, 3, 4, 5, 6, 7, 8, 9, 10, 11, 12] [] [] [] (by kernel_rfl) (by kernel_rfl) (by simp only [List.filterMap_cons, List.filterMap_nil, List.getElem?_toArray, List.getElem?_cons_succ, List.getElem?_cons_zero]; try exact rfl) (by simp only [List.filterMap_cons, List.filterMap_nil, List.getElem?_toArray, List.getElem?_cons_succ, List.getElem?_cons_zero]; try exact rfl) (by simp only [List.filterMap_cons, List.filterMap_nil, List.getElem?_toArray, List.getElem?_cons_succ, List.getElem?_cons_zero]; try exact rfl) ?_; (repeat (first | (refine ql_plain rfl rfl ?_; intro K hK; go_big_quiet_op; go_big_quiet_on) | (refine ql_nilCheck rfl rfl rfl ?_; intro K hK; simp only [Act.put, List.setIfInBounds_toArray, List.set_cons_succ, List.set_cons_zero]; go_big_quiet_on) | (refine ql_call (fun _ => ((room_any _ _).mono (by rintro e w' ⟨rfl, rfl⟩; exact ⟨rfl, Ext.refl _⟩))) rfl rfl Try.func91 rfl (by kernel_rfl) rfl ?_; intro K hK; simp only [Act.put, List.setIfInBounds_toArray, List.set_cons_succ, List.set_cons_zero]; go_big_quiet_on) | (refine ql_skip rfl ?_; intro K hK; simp only [Act.put, List.setIfInBounds_toArray, List.set_cons_succ, List.set_cons_zero]; go_big_quiet_on))); refine ql_nil ?_)
  refine mw0 ?_; (repeat (first | (refine pl_plain rfl rfl ?_; intro K hK; go_big_quiet_op; go_big_quiet_on) | (refine pl_nilCheck rfl rfl rfl ?_; intro K hK; simp only [Act.put, List.setIfInBounds_toArray, List.set_cons_succ, List.set_cons_zero]; go_big_quiet_on))); refine pl_nil ?_; rintro w1 ⟨d1, rfl⟩ -
  go_wp2; refine only_normal ?_
  go_wp2
  (refine bodyPost_ret (v := ?_) (by simp [results, Try.results84, go_sem]; rfl) rfl ?_)
  refine ⟨_, rfl, ?_⟩
  (repeat (first | exact Ext.refl _ | assumption | refine Ext.alloc ?_ _ | refine Ext.ext ?_ _ | refine Ext.drew ?_))
theorem begin_m (w0 w : World) (M : Nat) (r : Rec) (e : Ev) (hr : ROk r) (h : MachS w0 w M r e) :
    Calls Try.prog 84 #[.pointer (some ⟨M, 0, none⟩)] w fun x w' => ∃ v, x = .returned v ∧ Mach w0 w' M (beginR r e) e 0 [] := by
  by_cases hl : room r.Kind ≤ r.Ts.length
  · have hw : beginR r e = r := by simp [beginR, hl]
    rw [hw]
    exact (beginF w0 w M r e hl (h.weak hr)).mono fun x w' ⟨v, hx, he⟩ => ⟨v, hx, h.ext0 hr he⟩
  · rcases hr.shape with hs | ⟨t, hs, h1⟩ | ⟨t, u, hs, h1, h2, h7⟩
    · exact begin0 w0 w M r e hr hs h
    · refine begin1 w0 w M r e t h1 hs ?_ h
      rw [hs] at hl
      unfold room at hl
      split at hl
      · assumption
      · simp at hl
    · rw [hs, h7] at hl
      simp [room] at hl
theorem down_begin (r : Rec) (e : Ev) (h1 : ¬ (r.Kind ≤ 3 ∧ r.Ts ≠ [])) (h2 : ¬ (r.Kind = 2 ∧ r.Count = 1 ∧ 8 < dist (smp e) r.L)) : down r e = (beginR r e, 0, []) := by
  unfold down beginR
  rw [if_neg h1, if_neg h2]
  split <;> rfl
theorem smp_placed {e : Ev} (hv : valid e = true) (h5 : e.Kind ≠ 5) : placed (smp e) = true := by
  simp only [valid, if_neg h5, Bool.and_eq_true] at hv
  exact hv.2
set_option maxHeartbeats 2000000 in
theorem down_m (w0 w : World) (M : Nat) (r : Rec) (e : Ev) (hr : ROk r) (hp : placed (smp e) = true) (h : MachS w0 w M r e) :
    Calls Try.prog 58 #[.pointer (some ⟨M, 0, none⟩)] w fun x w' => x = .returned (.tuple #[]) ∧ Mach w0 w' M (down r e).1 e (down r e).2.1 (down r e).2.2 := by
  have hm := h
  obtain ⟨a, c, o, hM, hc, ht⟩ := (h.weak hr).read
  have c0 : w.cell? ⟨M, 0, none⟩ = some (.int .i64 r.Kind) := hc 0 _ rfl
  have c3 : w.cell? ⟨M, 3, none⟩ = some (.int .i64 r.Count) := hc 3 _ rfl
  have c4 : w.cell? ⟨M, 4, none⟩ = some (.slice a r.Ts.length c) := hc 4 _ rfl
  have c5 : w.cell? ⟨M, 5, none⟩ = some (.int .i64 r.L.X) := hc 5 _ rfl
  have c6 : w.cell? ⟨M, 6, none⟩ = some (.int .i64 r.L.Y) := hc 6 _ rfl
  have c7 : w.cell? ⟨M, 7, none⟩ = some (.int .i64 r.L.T) := hc 7 _ rfl
  have c8 : w.cell? ⟨M, 8, none⟩ = some (.int .i64 e.Kind) := hc 8 _ rfl
  have c9 : w.cell? ⟨M, 9, none⟩ = some (.int .i64 e.ID) := hc 9 _ rfl
  have c10 : w.cell? ⟨M, 10, none⟩ = some (.int .i64 e.X) := hc 10 _ rfl
  have c11 : w.cell? ⟨M, 11, none⟩ = some (.int .i64 e.Y) := hc 11 _ rfl
  have c12 : w.cell? ⟨M, 12, none⟩ = some (.int .i64 e.Time) := hc 12 _ rfl
  have c13 : w.cell? ⟨M, 13, none⟩ = some (.int .i64 e.Wheel) := hc 13 _ rfl
  have hds := Lib.hid fun w => dist_s (smp e) r.L hp hr.last w
  simp only [smp] at hds
  replace hm := Lib.hid hm
  replace hr2 := Lib.hid hr
  have k1 := hr.kind
  clear hc h ht
  by_cases hk3 : r.Kind ≤ 3
  · by_cases hts : r.Ts = []
    · rw [hts, List.length_nil] at c4
      by_cases hfar : r.Kind = 2 ∧ r.Count = 1 ∧ 8 < dist (smp e) r.L
      · have hw : down r e = fail r := by simp [down, hts, hfar]
        rw [hw]
        obtain ⟨hk, hc1, hd⟩ := hfar
        have e1 : (r.Kind == 1) = false := by simp [hk]
        have e2 : (r.Kind == 2) = true := by simp [hk]
        have e3 : (r.Count == 1) = true := by simp [hc1]
        have d1 : decide (8 < dist ⟨e.X, e.Y, e.Time⟩ r.L) = true := by simpa [smp] using hd
        clear hk hc1 hd hw hk3 hts hr k1 hp
        go_enter Try.func58, Try.ntmps58
        go_wp2
        (refine wp_region_ext (by kernel_rfl) (by kernel_rfl) ?_; (repeat (go_big_quiet_step ((first | (go_at_call 53; exact Calls.quiet_ext (sample_any _ _ _ _ _ _ _)) | (go_at_call 83; exact Calls.quiet_ext (hds.out _)))))); refine wpQuiet_nil ?_; intro _ hwq; obtain ⟨dq, hwq⟩ := hwq; subst hwq)
        go_wp2_with fail
        refine (fail_m w0 _ M r e [] (hm.out.ext0 hr2.out (by (repeat (first | exact Ext.refl _ | assumption | refine Ext.alloc ?_ _ | refine Ext.ext ?_ _ | refine Ext.drew ?_))))).mono ?_
        rintro x w1 ⟨rfl, hm2⟩
        replace hm2 := Lib.hid hm2
        go_wp2
        (first | (refine bodyPost_end (results_none rfl _ _ _) rfl ?_) | (refine bodyPost_ret (results_none rfl _ _ _) rfl ?_))
        exact ⟨rfl, hm2.out⟩
      · have hw : down r e = (beginR r e, 0, []) := down_begin r e (by simp [hts]) hfar
        rw [hw]
        by_cases hk : r.Kind = 2
        · have e1 : (r.Kind == 1) = false := by simp [hk]
          have e2 : (r.Kind == 2) = true := by simp [hk]
          by_cases hc1 : r.Count = 1
          · have e3 : (r.Count == 1) = true := by simp [hc1]
            have d1 : decide (8 < dist ⟨e.X, e.Y, e.Time⟩ r.L) = false := by simpa [smp, hk, hc1] using hfar
            clear hk hc1 hfar hw hk3 hts hr k1 hp
            go_enter Try.func58, Try.ntmps58
            go_wp2
            (refine wp_region_ext (by kernel_rfl) (by kernel_rfl) ?_; (repeat (go_big_quiet_step ((first | (go_at_call 53; exact Calls.quiet_ext (sample_any _ _ _ _ _ _ _)) | (go_at_call 83; exact Calls.quiet_ext (hds.out _)))))); refine wpQuiet_nil ?_; intro _ hwq; obtain ⟨dq, hwq⟩ := hwq; subst hwq)
            go_wp2_with fail
            refine (begin_m w0 _ M r e hr2.out (hm.out.ext (by (repeat (first | exact Ext.refl _ | assumption | refine Ext.alloc ?_ _ | refine Ext.ext ?_ _ | refine Ext.drew ?_))))).mono ?_
            rintro x w1 ⟨v, rfl, hm2⟩
            replace hm2 := Lib.hid hm2
            go_wp2
            (first | (refine bodyPost_end (results_none rfl _ _ _) rfl ?_) | (refine bodyPost_ret (results_none rfl _ _ _) rfl ?_))
            exact ⟨rfl, hm2.out⟩
          · have e3 : (r.Count == 1) = false := by simp [hc1]
            clear hk hc1 hfar hw hk3 hts hr k1 hp
            go_enter Try.func58, Try.ntmps58
            go_wp2
            (refine wp_region_ext (by kernel_rfl) (by kernel_rfl) ?_; (repeat (go_big_quiet_step ((first | (go_at_call 53; exact Calls.quiet_ext (sample_any _ _ _ _ _ _ _)) | (go_at_call 83; exact Calls.quiet_ext (hds.out _)))))); refine wpQuiet_nil ?_; intro _ hwq; obtain ⟨dq, hwq⟩ := hwq; subst hwq)
            go_wp2_with fail
            refine (begin_m w0 _ M r e hr2.out (hm.out.ext (by (repeat (first | exact Ext.refl _ | assumption | refine Ext.alloc ?_ _ | refine Ext.ext ?_ _ | refine Ext.drew ?_))))).mono ?_
            rintro x w1 ⟨v, rfl, hm2⟩
            replace hm2 := Lib.hid hm2
            go_wp2
            (first | (refine bodyPost_end (results_none rfl _ _ _) rfl ?_) | (refine bodyPost_ret (results_none rfl _ _ _) rfl ?_))
            exact ⟨rfl, hm2.out⟩
        · have e2 : (r.Kind == 2) = false := by simp [hk]
          have e13 : (r.Kind == 1) = true ∨ (r.Kind == 1) = false ∧ (r.Kind == 3) = true := by
            simp only [beq_iff_eq, beq_eq_false_iff_ne]; omega
          clear hk hfar hw hk3 hts hr k1 hp
          rcases e13 with e1 | ⟨e1, e3⟩
          all_goals
            go_enter Try.func58, Try.ntmps58
            go_wp2
            (refine wp_region_ext (by kernel_rfl) (by kernel_rfl) ?_; (repeat (go_big_quiet_step ((first | (go_at_call 53; exact Calls.quiet_ext (sample_any _ _ _ _ _ _ _)) | (go_at_call 83; exact Calls.quiet_ext (hds.out _)))))); refine wpQuiet_nil ?_; intro _ hwq; obtain ⟨dq, hwq⟩ := hwq; subst hwq)
            go_wp2_with fail
            refine (begin_m w0 _ M r e hr2.out (hm.out.ext (by (repeat (first | exact Ext.refl _ | assumption | refine Ext.alloc ?_ _ | refine Ext.ext ?_ _ | refine Ext.drew ?_))))).mono ?_
            rintro x w1 ⟨v, rfl, hm2⟩
            replace hm2 := Lib.hid hm2
            go_wp2
            (first | (refine bodyPost_end (results_none rfl _ _ _) rfl ?_) | (refine bodyPost_ret (results_none rfl _ _ _) rfl ?_))
            exact ⟨rfl, hm2.out⟩
    · have hw : down r e = fail r := by simp [down, hts, hk3]
      rw [hw]
      have hpos : 0 < r.Ts.length := List.length_pos_iff.2 hts
      have hp1 : decide (0 < (r.Ts.length : Int)) = true := by simpa using hpos
      have e13 : (r.Kind == 1) = true ∨ (r.Kind == 1) = false ∧ (r.Kind == 2) = true ∨ (r.Kind == 1) = false ∧ (r.Kind == 2) = false ∧ (r.Kind == 3) = true := by
        simp only [beq_iff_eq, beq_eq_false_iff_ne]; omega
      clear hw hk3 hts hr k1 hp
      rcases e13 with e1 | ⟨e1, e2⟩ | ⟨e1, e2, e3⟩
      all_goals
        go_enter Try.func58, Try.ntmps58
        go_wp2_with fail
        refine (fail_m w0 _ M r e [] (hm.out.ext0 hr2.out (by (repeat (first | exact Ext.refl _ | assumption | refine Ext.alloc ?_ _ | refine Ext.ext ?_ _ | refine Ext.drew ?_))))).mono ?_
        rintro x w1 ⟨rfl, hm2⟩
        replace hm2 := Lib.hid hm2
        go_wp2
        (first | (refine bodyPost_end (results_none rfl _ _ _) rfl ?_) | (refine bodyPost_ret (results_none rfl _ _ _) rfl ?_))
        exact ⟨rfl, hm2.out⟩
  · have hw : down r e = (beginR r e, 0, []) := down_begin r e (fun h => hk3 h.1) (fun h => hk3 (by omega))
    rw [hw]
    have e1 : (r.Kind == 1) = false := by simp; omega
    have e2 : (r.Kind == 2) = false := by simp; omega
    have e3 : (r.Kind == 3) = false := by simp; omega
    clear hw hk3 hr k1 hp
    go_enter Try.func58, Try.ntmps58
    go_wp2_with fail
    refine (begin_m w0 _ M r e hr2.out (hm.out.ext (by (repeat (first | exact Ext.refl _ | assumption | refine Ext.alloc ?_ _ | refine Ext.ext ?_ _ | refine Ext.drew ?_))))).mono ?_
    rintro x w1 ⟨v, rfl, hm2⟩
    replace hm2 := Lib.hid hm2
    go_wp2
    (first | (refine bodyPost_end (results_none rfl _ _ _) rfl ?_) | (refine bodyPost_ret (results_none rfl _ _ _) rfl ?_))
    exact ⟨rfl, hm2.out⟩
end Go.Proofs.Ytendgmnbnnkpnaa.G
