/- still. -/
import Derived.Test.YtendgmnbnnkpnaaK2
import Derived.WalkKit
import Derived.WalkSpells
import Derived.WalkLawsBesides
import Derived.Deep.QuietTactic
import Derived.BigQuiet
import Derived.BigRegion
import Derived.Lib.Hide
import Derived.Deep.RegionWith
set_option linter.unusedSimpArgs false
set_option linter.unusedVariables false
namespace Go.Proofs.Ytendgmnbnnkpnaa.G
open Go.RowKit
theorem succeed_ok {r : Rec} {s : Smp} {ask : Int} (hr : ROk r) (hs : placed s = true) (hc : cont r.Kind = false) : ROk (succeed r s ask).1 := by
  unfold succeed
  split
  · exact ⟨hr.kind, hr.node, by simp [over], hr.count, hs, by simp [over], by simp [over], by simp [over], by simp [over, hc]⟩
  · exact ⟨hr.kind, hr.node, by simp, hr.count, hs, hr.len, hr.ts, by simp, by simp [hc]⟩
theorem succeed_ts {r : Rec} {s : Smp} {ask : Int} : (succeed r s ask).1.Ts = [] ∨ (succeed r s ask).1.Ts = r.Ts := by
  unfold succeed
  split
  · exact .inl rfl
  · exact .inr rfl
set_option maxHeartbeats 2000000 in
theorem still_m (w0 w : World) (M : Nat) (r : Rec) (e : Ev) (t : Tch) (hr : ROk r) (hk : r.Kind ≤ 3) (hs : r.Ts = [t]) (hid : t.ID = e.ID) (hp : placed (smp e) = true) (he : e.Kind = 2 ∨ e.Kind = 3) (h : Mach w0 w M r e 0 []) :
    Calls Try.prog 61 #[.pointer (some ⟨M, 0, none⟩), .int .i64 0, .bool (decide (e.Kind = 3))] w fun x w' => x = .returned (.tuple #[]) ∧ Mach w0 w' M (still r e).1 e (still r e).2.1 (still r e).2.2 := by
  have hm := h
  obtain ⟨a, c, o, hM, hc, ht⟩ := h.read
  have c0 : w.cell? ⟨M, 0, none⟩ = some (.int .i64 r.Kind) := hc 0 _ rfl
  have c3 : w.cell? ⟨M, 3, none⟩ = some (.int .i64 r.Count) := hc 3 _ rfl
  have c4 : w.cell? ⟨M, 4, none⟩ = some (.slice a r.Ts.length c) := hc 4 _ rfl
  have c8 : w.cell? ⟨M, 8, none⟩ = some (.int .i64 e.Kind) := hc 8 _ rfl
  have c9 : w.cell? ⟨M, 9, none⟩ = some (.int .i64 e.ID) := hc 9 _ rfl
  have c10 : w.cell? ⟨M, 10, none⟩ = some (.int .i64 e.X) := hc 10 _ rfl
  have c11 : w.cell? ⟨M, 11, none⟩ = some (.int .i64 e.Y) := hc 11 _ rfl
  have c12 : w.cell? ⟨M, 12, none⟩ = some (.int .i64 e.Time) := hc 12 _ rfl
  have c13 : w.cell? ⟨M, 13, none⟩ = some (.int .i64 e.Wheel) := hc 13 _ rfl
  have h1 : TOk t := hr.ts t (by rw [hs]; simp)
  rw [hs] at ht c4
  simp only [List.length_cons, List.length_nil, Nat.zero_add] at c4
  rcases ht with ht | ⟨b, off, rfl, ht⟩
  · cases ht
  obtain ⟨sb, so, sc, hmt⟩ := ht.one
  have hb := hmt.lt
  obtain ⟨p0, p1, p2, p3, p4, _⟩ := hmt
  have hds := Lib.hid fun w => dist_s (smp e) t.F hp h1.f w
  simp only [smp] at hds
  have hr2 := Lib.hid hr
  have k1 := hr.kind
  have hcn : cont r.Kind = false := by simp [cont, btw]; omega
  have hup : ∀ r2 : Rec, ROk r2 → (r2.Ts = [] ∨ r2.Ts = r.Ts) → r2.Ts = [] ∨ ∃ t, r2.Ts = [t] ∧ t.ID = e.ID := fun r2 _ h2 => h2.imp id fun h2 => ⟨t, by rw [h2, hs], hid⟩
  have h5 : e.Kind ≠ 5 := by omega
  replace hup := Lib.hid hup
  replace h5 := Lib.hid h5
  replace hp := Lib.hid hp
  replace hcn := Lib.hid hcn
  have hmm := Lib.hid hm
  clear hc h h1 hm
  by_cases hd : 8 < dist (smp e) t.F
  · have hw : still r e = fail r := by simp [still, hs, hd]
    rw [hw]
    have d1 : decide (8 < dist ⟨e.X, e.Y, e.Time⟩ t.F) = true := by simpa [smp] using hd
    clear hw hd hs hr hid hk k1 he
    go_enter Try.func61, Try.ntmps61
    go_wp2
    (refine wp_region_ext (by kernel_rfl) (by kernel_rfl) ?_; (repeat (go_big_quiet_step ((first | (go_at_call 53; exact Calls.quiet_ext (sample_any _ _ _ _ _ _ _)) | (go_at_call 83; exact Calls.quiet_ext (hds.out _)))))); refine wpQuiet_nil ?_; intro _ hwq; obtain ⟨dq, hwq⟩ := hwq; subst hwq)
    go_wp2_with fail
    refine (fail_m w0 _ M r e [] (hmm.out.ext (by (repeat (first | exact Ext.refl _ | assumption | refine Ext.alloc ?_ _ | refine Ext.ext ?_ _ | refine Ext.drew ?_))))).mono ?_
    rintro x w1 ⟨rfl, hm2⟩
    replace hm2 := Lib.hid hm2
    go_wp2
    (first | (refine bodyPost_end (results_none rfl _ _ _) rfl ?_) | (refine bodyPost_ret (results_none rfl _ _ _) rfl ?_))
    exact ⟨rfl, hm2.out⟩
  · have d1 : decide (8 < dist ⟨e.X, e.Y, e.Time⟩ t.F) = false := by simpa [smp] using hd
    rcases he with he | he
    · have hw : still r e = (r, 0, []) := by simp [still, hs, hd, he]
      rw [hw]
      have e3 : decide (e.Kind = 3) = false := by simp [he]
      rw [e3]
      clear hw hd hs hr hid hk k1 he e3
      go_enter Try.func61, Try.ntmps61
      go_wp2
      (refine wp_region_ext (by kernel_rfl) (by kernel_rfl) ?_; (repeat (go_big_quiet_step ((first | (go_at_call 53; exact Calls.quiet_ext (sample_any _ _ _ _ _ _ _)) | (go_at_call 83; exact Calls.quiet_ext (hds.out _)))))); refine wpQuiet_nil ?_; intro _ hwq; obtain ⟨dq, hwq⟩ := hwq; subst hwq)
      go_wp2
      (first | (refine bodyPost_end (results_none rfl _ _ _) rfl ?_) | (refine bodyPost_ret (results_none rfl _ _ _) rfl ?_))
      refine ⟨rfl, hmm.out.ext ?_⟩
      (repeat (first | exact Ext.refl _ | assumption | refine Ext.alloc ?_ _ | refine Ext.ext ?_ _ | refine Ext.drew ?_))
    · have e3 : decide (e.Kind = 3) = true := by simp [he]
      rw [e3]
      by_cases hk3 : r.Kind = 3
      · have hw : still r e = fail r := by simp [still, hs, hd, he, hk3]
        rw [hw]
        have e4 : (r.Kind == 3) = true := by simp [hk3]
        clear hw hd hs hr hid hk k1 he e3 hk3
        go_enter Try.func61, Try.ntmps61
        go_wp2
        (refine wp_region_ext (by kernel_rfl) (by kernel_rfl) ?_; (repeat (go_big_quiet_step ((first | (go_at_call 53; exact Calls.quiet_ext (sample_any _ _ _ _ _ _ _)) | (go_at_call 83; exact Calls.quiet_ext (hds.out _)))))); refine wpQuiet_nil ?_; intro _ hwq; obtain ⟨dq, hwq⟩ := hwq; subst hwq)
        go_wp2_with fail
        refine (fail_m w0 _ M r e [] (hmm.out.ext (by (repeat (first | exact Ext.refl _ | assumption | refine Ext.alloc ?_ _ | refine Ext.ext ?_ _ | refine Ext.drew ?_))))).mono ?_
        rintro x w1 ⟨rfl, hm2⟩
        replace hm2 := Lib.hid hm2
        go_wp2
        (first | (refine bodyPost_end (results_none rfl _ _ _) rfl ?_) | (refine bodyPost_ret (results_none rfl _ _ _) rfl ?_))
        exact ⟨rfl, hm2.out⟩
      · have e4 : (r.Kind == 3) = false := by simp [hk3]
        by_cases hk2 : r.Kind = 2
        · have e5 : (r.Kind == 2) = true := by simp [hk2]
          by_cases hc0 : r.Count = 0
          · have hw : still r e = ({ r with Count := 1, L := smp e, Ts := [] }, 3, []) := by simp [still, hs, hd, he, hk2, hc0]
            rw [hw]
            have e6 : (r.Count == 0) = true := by simp [hc0]
            have hr3 : ROk { r with Count := 1, L := smp e } := ⟨hr.kind, hr.node, hr.state, by simp, hp.out, hr.len, hr.ts, hr.over, fun h => by rw [hcn.out] at h; cases h⟩
            have hr4 := Lib.hid (hup.out _ hr3 (.inr rfl))
            replace hr3 := Lib.hid hr3
            clear hw hd hs hr hid hk k1 he e3 hk3 hk2 hc0
            go_enter Try.func61, Try.ntmps61
            go_wp2
            (refine wp_region_ext (by kernel_rfl) (by kernel_rfl) ?_; (repeat (go_big_quiet_step ((first | (go_at_call 53; exact Calls.quiet_ext (sample_any _ _ _ _ _ _ _)) | (go_at_call 83; exact Calls.quiet_ext (hds.out _)))))); refine wpQuiet_nil ?_; intro _ hwq; obtain ⟨dq, hwq⟩ := hwq; subst hwq)
            go_wp2_with fail
            refine gen_at (p := fun W => Calls _ _ _ W _) ?_
            intro W hW
            have hmW : Mach w0 W M r e 0 [] := by
              rw [hW]
              exact hmm.out.ext (by (repeat (first | exact Ext.refl _ | assumption | refine Ext.alloc ?_ _ | refine Ext.ext ?_ _ | refine Ext.drew ?_)))
            clear hW hmm c0 c3 c4 c8 c9 c10 c11 c12 c13 p0 p1 p2 p3 p4 hM hb
            obtain ⟨D1, a', c', o', rfl, ⟨D2, rfl⟩, ht, hg⟩ := hmW
            replace ht := Lib.hid ht
            replace hg := Lib.hid hg
            refine (sample_any _ _ _ _ _ _ _).mono ?_
            rintro x w1 ⟨rfl, ds, rfl⟩
            go_wp2_with fail
            refine (lift_any w0 _ _ { r with Count := 1, L := smp e } e 3 [] hr3.out hr4.out h5.out ?_).mono ?_
            · exact ⟨D1, a', c', o', rfl, by (repeat (first | exact Ext.refl _ | assumption | refine Ext.alloc ?_ _ | refine Ext.ext ?_ _ | refine Ext.drew ?_)), (Mach.turnT ht.out _).ext (by (repeat (first | exact Ext.refl _ | assumption | refine Ext.alloc ?_ _ | refine Ext.ext ?_ _ | refine Ext.drew ?_))), (Mach.turnG hg.out _).ext (by (repeat (first | exact Ext.refl _ | assumption | refine Ext.alloc ?_ _ | refine Ext.ext ?_ _ | refine Ext.drew ?_)))⟩
            rintro x w1 ⟨rfl, hm2⟩
            replace hm2 := Lib.hid hm2
            go_wp2
            (first | (refine bodyPost_end (results_none rfl _ _ _) rfl ?_) | (refine bodyPost_ret (results_none rfl _ _ _) rfl ?_))
            exact ⟨rfl, hm2.out⟩
          · have hw : still r e = ({ (succeed r (smp e) 1).1 with Ts := [] }, (succeed r (smp e) 1).2.1, (succeed r (smp e) 1).2.2) := by simp [still, hs, hd, he, hk2, hc0]
            rw [hw]
            have e6 : (r.Count == 0) = false := by simp [hc0]
            have hrs := succeed_ok (ask := 1) hr hp.out hcn.out
            have hrt := Lib.hid (hup.out _ hrs succeed_ts)
            replace hrs := Lib.hid hrs
            have hrl := Lib.hid (hr.withL hp.out)
            obtain ⟨q, hq⟩ : ∃ q, q = succeed r (smp e) 1 := ⟨_, rfl⟩
            have hsc := Lib.hid fun w h => succeed_m w0 w M r e (smp e) 1 hrl.out h
            rw [← hq] at hrs hrt hsc ⊢
            clear hw hd hs hr hid hk k1 he e3 hk3 hk2 hc0 hq
            go_enter Try.func61, Try.ntmps61
            go_wp2
            (refine wp_region_ext (by kernel_rfl) (by kernel_rfl) ?_; (repeat (go_big_quiet_step ((first | (go_at_call 53; exact Calls.quiet_ext (sample_any _ _ _ _ _ _ _)) | (go_at_call 83; exact Calls.quiet_ext (hds.out _)))))); refine wpQuiet_nil ?_; intro _ hwq; obtain ⟨dq, hwq⟩ := hwq; subst hwq)
            go_wp2_with fail
            refine (sample_any _ _ _ _ _ _ _).mono ?_
            rintro x w1 ⟨rfl, ds, rfl⟩
            go_wp2_with fail
            refine (hsc.out _ (hmm.out.ext (by (repeat (first | exact Ext.refl _ | assumption | refine Ext.alloc ?_ _ | refine Ext.ext ?_ _ | refine Ext.drew ?_))))).mono ?_
            rintro x w1 ⟨rfl, hm2⟩
            replace hm2 := Lib.hid hm2
            go_wp2_with fail
            refine (lift_any w0 _ M _ e _ _ hrs.out hrt.out h5.out (hm2.out.ext (by (repeat (first | exact Ext.refl _ | assumption | refine Ext.alloc ?_ _ | refine Ext.ext ?_ _ | refine Ext.drew ?_))))).mono ?_
            rintro x w2 ⟨rfl, hm3⟩
            replace hm3 := Lib.hid hm3
            go_wp2
            (first | (refine bodyPost_end (results_none rfl _ _ _) rfl ?_) | (refine bodyPost_ret (results_none rfl _ _ _) rfl ?_))
            exact ⟨rfl, hm3.out⟩
        · have hw : still r e = ({ (succeed r (smp e) 0).1 with Ts := [] }, (succeed r (smp e) 0).2.1, (succeed r (smp e) 0).2.2) := by simp [still, hs, hd, he, hk2, hk3]
          rw [hw]
          have e5 : (r.Kind == 2) = false := by simp [hk2]
          have hrs := succeed_ok (ask := 0) hr hp.out hcn.out
          have hrt := Lib.hid (hup.out _ hrs succeed_ts)
          replace hrs := Lib.hid hrs
          have hrl := Lib.hid (hr.withL hp.out)
          obtain ⟨q, hq⟩ : ∃ q, q = succeed r (smp e) 0 := ⟨_, rfl⟩
          have hsc := Lib.hid fun w h => succeed_m w0 w M r e (smp e) 0 hrl.out h
          rw [← hq] at hrs hrt hsc ⊢
          clear hw hd hs hr hid hk k1 he e3 hk3 hk2 hq
          go_enter Try.func61, Try.ntmps61
          go_wp2
          (refine wp_region_ext (by kernel_rfl) (by kernel_rfl) ?_; (repeat (go_big_quiet_step ((first | (go_at_call 53; exact Calls.quiet_ext (sample_any _ _ _ _ _ _ _)) | (go_at_call 83; exact Calls.quiet_ext (hds.out _)))))); refine wpQuiet_nil ?_; intro _ hwq; obtain ⟨dq, hwq⟩ := hwq; subst hwq)
          go_wp2_with fail
          refine (sample_any _ _ _ _ _ _ _).mono ?_
          rintro x w1 ⟨rfl, ds, rfl⟩
          go_wp2_with fail
          refine (hsc.out _ (hmm.out.ext (by (repeat (first | exact Ext.refl _ | assumption | refine Ext.alloc ?_ _ | refine Ext.ext ?_ _ | refine Ext.drew ?_))))).mono ?_
          rintro x w1 ⟨rfl, hm2⟩
          replace hm2 := Lib.hid hm2
          go_wp2_with fail
          refine (lift_any w0 _ M _ e _ _ hrs.out hrt.out h5.out (hm2.out.ext (by (repeat (first | exact Ext.refl _ | assumption | refine Ext.alloc ?_ _ | refine Ext.ext ?_ _ | refine Ext.drew ?_))))).mono ?_
          rintro x w2 ⟨rfl, hm3⟩
          replace hm3 := Lib.hid hm3
          go_wp2
          (first | (refine bodyPost_end (results_none rfl _ _ _) rfl ?_) | (refine bodyPost_ret (results_none rfl _ _ _) rfl ?_))
          exact ⟨rfl, hm3.out⟩
end Go.Proofs.Ytendgmnbnnkpnaa.G
