/- late. -/
import Derived.Test.YtendgmnbnnkpnaaUJ
import Derived.WalkKit
import Derived.WalkSpells
import Derived.WalkLawsBesides
import Derived.Deep.QuietTactic
import Derived.BigQuiet
import Derived.BigRegion
import Derived.Lib.Hide
import Derived.Deep.RegionWith
set_option linter.unusedSimpArgs false
set_option linter.unusedVariables false
namespace Go.Proofs.Ytendgmnbnnkpnaa.G
open Go.RowKit
/-- what the rules about time do, if they do something -/
def lateM (r : Rec) (e : Ev) : Option (Rec × Int × List Ges) :=
  if r.Kind ≤ 2 then
    match r.Ts with
    | t :: _ => if 300 < e.Time - t.F.T then some (fail r) else none
    | [] => if r.Kind = 2 ∧ r.Count = 1 ∧ 300 < e.Time - r.L.T then some (fail r) else none
  else if r.Kind = 3 then
    match r.Ts with
    | t :: _ => if e.Time - t.F.T < 500 then none else some (succeed r ⟨t.F.X, t.F.Y, e.Time⟩ 1)
    | [] => none
  else none
theorem feed_late (r : Rec) (e : Ev) (h : (!valid e || deaf r) = false) : feed r e = (lateM r e).getD (process r e) := by
  unfold feed lateM
  rw [if_neg (by rw [h]; decide)]
  cases r.Ts with
  | nil => simp only []; split <;> (try split) <;> rfl
  | cons t ts => simp only []; split <;> (try split) <;> (try split) <;> rfl
theorem ROk.withL {r : Rec} {s : Smp} (h : ROk r) (hs : placed s = true) : ROk { r with L := s } := ⟨h.kind, h.node, h.state, h.count, hs, h.len, h.ts, h.over, h.sure⟩
theorem fail_ask (r : Rec) : fail r = (over r, (fail r).2.1, []) := rfl
set_option maxHeartbeats 1000000 in
theorem late_m (w0 w : World) (M : Nat) (r : Rec) (e : Ev) (hr : ROk r) (hv : valid e = true) (h : Mach w0 w M r e 0 []) :
    Calls Try.prog 35 #[.pointer (some ⟨M, 0, none⟩)] w fun x w' => x = .returned (.bool (lateM r e).isSome) ∧
      (match lateM r e with | none => Ext w w' | some q => Mach w0 w' M q.1 e q.2.1 q.2.2) := by
  have ht0 : 0 ≤ e.Time ∧ e.Time ≤ 1099511627776 := by
    by_cases h5 : e.Kind = 5 <;> simp [valid, h5, placed, btw] at hv <;> omega
  have hm := h
  obtain ⟨a, c, o, hM, hc, ht⟩ := h.read
  have c0 : w.cell? ⟨M, 0, none⟩ = some (.int .i64 r.Kind) := hc 0 _ rfl
  have c3 : w.cell? ⟨M, 3, none⟩ = some (.int .i64 r.Count) := hc 3 _ rfl
  have c4 : w.cell? ⟨M, 4, none⟩ = some (.slice a r.Ts.length c) := hc 4 _ rfl
  have c5 : w.cell? ⟨M, 5, none⟩ = some (.int .i64 r.L.X) := hc 5 _ rfl
  have c6 : w.cell? ⟨M, 6, none⟩ = some (.int .i64 r.L.Y) := hc 6 _ rfl
  have c7 : w.cell? ⟨M, 7, none⟩ = some (.int .i64 r.L.T) := hc 7 _ rfl
  have c12 : w.cell? ⟨M, 12, none⟩ = some (.int .i64 e.Time) := hc 12 _ rfl
  replace hm := Lib.hid hm
  clear hc h hv
  have k1 := hr.kind
  by_cases hk1 : r.Kind = 1
  · have e1 : (r.Kind == 1) = true := by simpa using hk1
    have e2 : (r.Kind == 2) = false := by simp; omega
    rcases hr.shape with hs | ⟨t, hs, h1⟩ | ⟨t, u, hs, h1, h2, h7⟩
    · have hw : lateM r e = none := by simp [lateM, hs, hk1]
      rw [hw]
      rw [hs, List.length_nil] at c4
      clear hk1 hs
      go_enter Try.func35, Try.ntmps35
      go_wp2
      go_ret
      refine ⟨rfl, ?_⟩
      (repeat (first | exact Ext.refl _ | assumption | refine Ext.alloc ?_ _ | refine Ext.ext ?_ _ | refine Ext.drew ?_))
    · rw [hs] at ht c4
      simp only [List.length_cons, List.length_nil, Nat.zero_add] at c4
      rcases ht with ht | ⟨b, off, rfl, ht⟩
      · cases ht
      obtain ⟨sb, so, sc, hmt⟩ := ht.one
      have hb := hmt.lt
      obtain ⟨p0, p1, p2, p3, p4, _⟩ := hmt
      have hf : 0 ≤ t.F.T ∧ t.F.T ≤ 1099511627776 := by have := h1.f; simp [placed, btw] at this; omega
      by_cases hd : 300 < e.Time - t.F.T
      · have hw : lateM r e = some (fail r) := by simp [lateM, hs, hk1, hd]
        rw [hw]
        have d1 : decide (300 < e.Time - t.F.T) = true := by simpa using hd
        clear hk1 hs hd hw
        go_enter Try.func35, Try.ntmps35
        go_wp2
        (refine wp_region_ext (by kernel_rfl) (by kernel_rfl) ?_; (repeat (go_big_quiet_step ((fail)))); refine wpQuiet_nil ?_; intro _ hwq; obtain ⟨dq, hwq⟩ := hwq; subst hwq)
        go_wp2_with fail
        refine (fail_m w0 _ M r e [] (hm.out.ext (by (repeat (first | exact Ext.refl _ | assumption | refine Ext.alloc ?_ _ | refine Ext.ext ?_ _ | refine Ext.drew ?_))))).mono ?_
        rintro x w1 ⟨rfl, hm2⟩
        replace hm2 := Lib.hid hm2
        go_wp2
        go_ret
        exact ⟨rfl, hm2.out⟩
      · have hw : lateM r e = none := by simp [lateM, hs, hk1, hd]
        rw [hw]
        have d1 : decide (300 < e.Time - t.F.T) = false := by simpa using hd
        clear hk1 hs hd hw
        go_enter Try.func35, Try.ntmps35
        go_wp2
        (refine wp_region_ext (by kernel_rfl) (by kernel_rfl) ?_; (repeat (go_big_quiet_step ((fail)))); refine wpQuiet_nil ?_; intro _ hwq; obtain ⟨dq, hwq⟩ := hwq; subst hwq)
        go_wp2
        go_ret
        refine ⟨rfl, ?_⟩
        (repeat (first | exact Ext.refl _ | assumption | refine Ext.alloc ?_ _ | refine Ext.ext ?_ _ | refine Ext.drew ?_))
    · omega
  · have e1 : (r.Kind == 1) = false := by simpa using hk1
    by_cases hk2 : r.Kind = 2
    · have e2 : (r.Kind == 2) = true := by simpa using hk2
      have hl : 0 ≤ r.L.T ∧ r.L.T ≤ 1099511627776 := by have := hr.last; simp [placed, btw] at this; omega
      rcases hr.shape with hs | ⟨t, hs, h1⟩ | ⟨t, u, hs, h1, h2, h7⟩
      · rw [hs, List.length_nil] at c4
        by_cases hc1 : r.Count = 1
        · have e3 : (r.Count == 1) = true := by simpa using hc1
          by_cases hd : 300 < e.Time - r.L.T
          · have hw : lateM r e = some (fail r) := by simp [lateM, hs, hk2, hc1, hd]
            rw [hw]
            have d1 : decide (300 < e.Time - r.L.T) = true := by simpa using hd
            clear hk1 hk2 hs hd hw hc1 ht
            go_enter Try.func35, Try.ntmps35
            go_wp2
            (refine wp_region_ext (by kernel_rfl) (by kernel_rfl) ?_; (repeat (go_big_quiet_step ((fail)))); refine wpQuiet_nil ?_; intro _ hwq; obtain ⟨dq, hwq⟩ := hwq; subst hwq)
            go_wp2_with fail
            refine (fail_m w0 _ M r e [] (hm.out.ext (by (repeat (first | exact Ext.refl _ | assumption | refine Ext.alloc ?_ _ | refine Ext.ext ?_ _ | refine Ext.drew ?_))))).mono ?_
            rintro x w1 ⟨rfl, hm2⟩
            replace hm2 := Lib.hid hm2
            go_wp2
            go_ret
            exact ⟨rfl, hm2.out⟩
          · have hw : lateM r e = none := by simp [lateM, hs, hk2, hc1, hd]
            rw [hw]
            have d1 : decide (300 < e.Time - r.L.T) = false := by simpa using hd
            clear hk1 hk2 hs hd hw hc1 ht
            go_enter Try.func35, Try.ntmps35
            go_wp2
            (refine wp_region_ext (by kernel_rfl) (by kernel_rfl) ?_; (repeat (go_big_quiet_step ((fail)))); refine wpQuiet_nil ?_; intro _ hwq; obtain ⟨dq, hwq⟩ := hwq; subst hwq)
            go_wp2
            go_ret
            refine ⟨rfl, ?_⟩
            (repeat (first | exact Ext.refl _ | assumption | refine Ext.alloc ?_ _ | refine Ext.ext ?_ _ | refine Ext.drew ?_))
        · have hw : lateM r e = none := by simp [lateM, hs, hk2, hc1]
          rw [hw]
          have e3 : (r.Count == 1) = false := by simpa using hc1
          clear hk1 hk2 hs hw hc1 ht
          go_enter Try.func35, Try.ntmps35
          go_wp2
          go_ret
          refine ⟨rfl, ?_⟩
          (repeat (first | exact Ext.refl _ | assumption | refine Ext.alloc ?_ _ | refine Ext.ext ?_ _ | refine Ext.drew ?_))
      · rw [hs] at ht c4
        simp only [List.length_cons, List.length_nil, Nat.zero_add] at c4
        rcases ht with ht | ⟨b, off, rfl, ht⟩
        · cases ht
        obtain ⟨sb, so, sc, hmt⟩ := ht.one
        have hb := hmt.lt
        obtain ⟨p0, p1, p2, p3, p4, _⟩ := hmt
        have hf : 0 ≤ t.F.T ∧ t.F.T ≤ 1099511627776 := by have := h1.f; simp [placed, btw] at this; omega
        by_cases hd : 300 < e.Time - t.F.T
        · have hw : lateM r e = some (fail r) := by simp [lateM, hs, hk2, hd]
          rw [hw]
          have d1 : decide (300 < e.Time - t.F.T) = true := by simpa using hd
          clear hk1 hk2 hs hd hw
          go_enter Try.func35, Try.ntmps35
          go_wp2
          (refine wp_region_ext (by kernel_rfl) (by kernel_rfl) ?_; (repeat (go_big_quiet_step ((fail)))); refine wpQuiet_nil ?_; intro _ hwq; obtain ⟨dq, hwq⟩ := hwq; subst hwq)
          go_wp2_with fail
          refine (fail_m w0 _ M r e [] (hm.out.ext (by (repeat (first | exact Ext.refl _ | assumption | refine Ext.alloc ?_ _ | refine Ext.ext ?_ _ | refine Ext.drew ?_))))).mono ?_
          rintro x w1 ⟨rfl, hm2⟩
          replace hm2 := Lib.hid hm2
          go_wp2
          go_ret
          exact ⟨rfl, hm2.out⟩
        · have hw : lateM r e = none := by simp [lateM, hs, hk2, hd]
          rw [hw]
          have d1 : decide (300 < e.Time - t.F.T) = false := by simpa using hd
          clear hk1 hk2 hs hd hw
          go_enter Try.func35, Try.ntmps35
          go_wp2
          (refine wp_region_ext (by kernel_rfl) (by kernel_rfl) ?_; (repeat (go_big_quiet_step ((fail)))); refine wpQuiet_nil ?_; intro _ hwq; obtain ⟨dq, hwq⟩ := hwq; subst hwq)
          go_wp2
          go_ret
          refine ⟨rfl, ?_⟩
          (repeat (first | exact Ext.refl _ | assumption | refine Ext.alloc ?_ _ | refine Ext.ext ?_ _ | refine Ext.drew ?_))
      · omega
    · by_cases hk3 : r.Kind = 3
      · have e2 : (r.Kind == 2) = false := by simpa using hk2
        have e3 : (r.Kind == 3) = true := by simpa using hk3
        rcases hr.shape with hs | ⟨t, hs, h1⟩ | ⟨t, u, hs, h1, h2, h7⟩
        · rw [hs, List.length_nil] at c4
          have hw : lateM r e = none := by simp [lateM, hs, hk3]
          rw [hw]
          clear hk1 hk2 hk3 hs hw ht
          go_enter Try.func35, Try.ntmps35
          go_wp2
          go_ret
          refine ⟨rfl, ?_⟩
          (repeat (first | exact Ext.refl _ | assumption | refine Ext.alloc ?_ _ | refine Ext.ext ?_ _ | refine Ext.drew ?_))
        · have hts := hs
          rw [hs] at ht c4
          simp only [List.length_cons, List.length_nil, Nat.zero_add] at c4
          rcases ht with ht | ⟨b, off, rfl, ht⟩
          · cases ht
          obtain ⟨sb, so, sc, hmt⟩ := ht.one
          have hb := hmt.lt
          obtain ⟨p0, p1, p2, p3, p4, _⟩ := hmt
          have hfp := h1.f
          have hf : 0 ≤ t.F.T ∧ t.F.T ≤ 1099511627776 := by have := h1.f; simp [placed, btw] at this; omega
          by_cases hd : e.Time - t.F.T < 500
          · have hw : lateM r e = none := by simp [lateM, hs, hk3, hd]
            rw [hw]
            have d1 : decide (e.Time - t.F.T < 500) = true := by simpa using hd
            clear hk1 hk2 hk3 hs hd hw hfp hts
            go_enter Try.func35, Try.ntmps35
            go_wp2
            (refine wp_region_ext (by kernel_rfl) (by kernel_rfl) ?_; (repeat (go_big_quiet_step ((fail)))); refine wpQuiet_nil ?_; intro _ hwq; obtain ⟨dq, hwq⟩ := hwq; subst hwq)
            go_wp2
            go_ret
            refine ⟨rfl, ?_⟩
            (repeat (first | exact Ext.refl _ | assumption | refine Ext.alloc ?_ _ | refine Ext.ext ?_ _ | refine Ext.drew ?_))
          · have hw : lateM r e = some (succeed r ⟨t.F.X, t.F.Y, e.Time⟩ 1) := by simp [lateM, hs, hk3, hd]
            rw [hw]
            have d1 : decide (e.Time - t.F.T < 500) = false := by simpa using hd
            have hr2 : ROk { r with L := ⟨t.F.X, t.F.Y, e.Time⟩ } := hr.withL (by simp [placed, btw] at hfp ⊢; omega)
            replace hr2 := Lib.hid hr2
            clear hk1 hk2 hk3 hs hd hw hfp hts
            go_enter Try.func35, Try.ntmps35
            go_wp2
            (refine wp_region_ext (by kernel_rfl) (by kernel_rfl) ?_; (repeat (go_big_quiet_step ((fail)))); refine wpQuiet_nil ?_; intro _ hwq; obtain ⟨dq, hwq⟩ := hwq; subst hwq)
            go_wp2_with fail
            refine (succeed_m w0 _ M r e ⟨t.F.X, t.F.Y, e.Time⟩ 1 hr2.out (hm.out.ext (by (repeat (first | exact Ext.refl _ | assumption | refine Ext.alloc ?_ _ | refine Ext.ext ?_ _ | refine Ext.drew ?_))))).mono ?_
            rintro x w1 ⟨rfl, hm2⟩
            replace hm2 := Lib.hid hm2
            go_wp2
            go_ret
            exact ⟨rfl, hm2.out⟩
        · omega
      · have hw : lateM r e = none := by simp [lateM, hk3, show ¬ r.Kind ≤ 2 by omega]
        rw [hw]
        have e2 : (r.Kind == 2) = false := by simpa using hk2
        have e3 : (r.Kind == 3) = false := by simpa using hk3
        clear hk1 hk2 hk3 hw ht
        go_enter Try.func35, Try.ntmps35
        go_wp2
        go_ret
        refine ⟨rfl, ?_⟩
        (repeat (first | exact Ext.refl _ | assumption | refine Ext.alloc ?_ _ | refine Ext.ext ?_ _ | refine Ext.drew ?_))
end Go.Proofs.Ytendgmnbnnkpnaa.G
