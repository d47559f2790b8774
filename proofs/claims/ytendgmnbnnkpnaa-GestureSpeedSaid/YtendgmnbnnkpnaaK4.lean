/- throw. -/
import Derived.Test.YtendgmnbnnkpnaaK3
import Derived.WalkKit
import Derived.WalkSpells
import Derived.WalkLawsBesides
import Derived.Deep.QuietTactic
import Derived.BigQuiet
import Derived.BigRegion
import Derived.Lib.Hide
import Derived.Deep.RegionWith
set_option linter.unusedSimpArgs false
set_option linter.unusedVariables false
namespace Go.Proofs.Ytendgmnbnnkpnaa.G
open Go.RowKit
theorem fl_bd (a d : Int) (h1 : -2097152000 ≤ a) (h2 : a ≤ 2097152000) : -2097152000 ≤ fl a d ∧ fl a d ≤ 2097152000 := by
  have h := Int.natAbs_ediv_le_natAbs a d
  unfold fl
  omega
theorem vel_bd (l : List Smp) : (-2097152000 ≤ (vel l).1 ∧ (vel l).1 ≤ 2097152000) ∧ (-2097152000 ≤ (vel l).2 ∧ (vel l).2 ≤ 2097152000) := by
  by_cases hv : velOk l = true
  · by_cases hl : l = []
    · subst hl; simp [vel]
    · have hpos : 0 < l.length := List.length_pos_iff.2 hl
      have hg : ∀ s, s ∈ l → placed s = true := fun s hs => by
        obtain ⟨i, hi, rfl⟩ := List.mem_iff_getElem.1 hs
        have := good_placed l i (velOk_good l hv i hi)
        rwa [nth_eq l i hi] at this
      have hlast : nth l (l.length - 1) ∈ l := by rw [nth_eq l _ (by omega)]; exact List.getElem_mem _
      obtain ⟨f, hf⟩ : ∃ f, (l.find? fun s => decide ((nth l (l.length - 1)).T - 100 ≤ s.T)).getD (nth l (l.length - 1)) = f := ⟨_, rfl⟩
      have hfm : f ∈ l := by
        rw [← hf]
        cases hfd : l.find? fun s => decide ((nth l (l.length - 1)).T - 100 ≤ s.T) with
        | none => exact hlast
        | some g => exact List.mem_of_find?_eq_some hfd
      have b1 := placed_bd (hg _ hlast)
      have b2 := placed_bd (hg _ hfm)
      rw [vel_ok l hpos hv f hf]
      exact ⟨fl_bd _ _ (by omega) (by omega), fl_bd _ _ (by omega) (by omega)⟩
  · rw [vel_bad l (by simpa using hv)]
    simp
set_option maxHeartbeats 2000000 in
theorem throw_m (w0 w : World) (M : Nat) (r : Rec) (e : Ev) (t : Tch) (hr : ROk r) (hs : r.Ts = [t]) (hp : placed (smp e) = true) (he : e.Kind = 2 ∨ e.Kind = 3) (h : Mach w0 w M r e 0 []) :
    Calls Try.prog 62 #[.pointer (some ⟨M, 0, none⟩), .int .i64 0, .bool (decide (e.Kind = 3))] w fun x w' => x = .returned (.tuple #[]) ∧ Mach w0 w' M (throw_ r e).1 e (throw_ r e).2.1 (throw_ r e).2.2 := by
  rcases he with he | he
  · have hw : throw_ r e = (r, 0, []) := by simp [throw_, he]
    rw [hw]
    have e3 : decide (e.Kind = 3) = false := by simp [he]
    rw [e3]
    replace h := Lib.hid h
    clear hw he e3 hp hs hr
    go_enter Try.func62, Try.ntmps62
    go_wp2
    (first | (refine bodyPost_end (results_none rfl _ _ _) rfl ?_) | (refine bodyPost_ret (results_none rfl _ _ _) rfl ?_))
    refine ⟨rfl, h.out.ext ?_⟩
    (repeat (first | exact Ext.refl _ | assumption | refine Ext.alloc ?_ _ | refine Ext.ext ?_ _ | refine Ext.drew ?_))
  have e3 : decide (e.Kind = 3) = true := by simp [he]
  rw [e3]
  have hm := h
  obtain ⟨a, c, o, hM, hc, ht⟩ := h.read
  have c4 : w.cell? ⟨M, 4, none⟩ = some (.slice a r.Ts.length c) := hc 4 _ rfl
  have c8 : w.cell? ⟨M, 8, none⟩ = some (.int .i64 e.Kind) := hc 8 _ rfl
  have c9 : w.cell? ⟨M, 9, none⟩ = some (.int .i64 e.ID) := hc 9 _ rfl
  have c10 : w.cell? ⟨M, 10, none⟩ = some (.int .i64 e.X) := hc 10 _ rfl
  have c11 : w.cell? ⟨M, 11, none⟩ = some (.int .i64 e.Y) := hc 11 _ rfl
  have c12 : w.cell? ⟨M, 12, none⟩ = some (.int .i64 e.Time) := hc 12 _ rfl
  have c13 : w.cell? ⟨M, 13, none⟩ = some (.int .i64 e.Wheel) := hc 13 _ rfl
  have h1 : TOk t := hr.ts t (by rw [hs]; simp)
  rw [hs] at ht c4
  simp only [List.length_cons, List.length_nil, Nat.zero_add] at c4
  rcases ht with ht | ⟨b, off, rfl, ht⟩
  · cases ht
  obtain ⟨sb, so, sc, hmt⟩ := ht.one
  have hb := hmt.lt
  have hv := Lib.hid fun w' (he : Ext w w') => vel_t t sb so sc w' h1 (hmt.ss.ext he)
  obtain ⟨p0, p1, p2, p3, p4, _⟩ := hmt
  obtain ⟨⟨v1, v2⟩, v3, v4⟩ := vel_bd t.S
  have hrl := Lib.hid (hr.withL hp)
  have hmm := Lib.hid hm
  by_cases hd : mx (mx (mx (vel t.S).1 (-(vel t.S).1)) (vel t.S).2) (-(vel t.S).2) < 400
  · have hw : throw_ r e = fail r := by simp [throw_, he, hs, hd]
    rw [hw]
    have d1 : decide (mx (mx (mx (vel t.S).1 (-(vel t.S).1)) (vel t.S).2) (-(vel t.S).2) < 400) = true := by simpa using hd
    clear hw hd hs hr he e3 hc h h1 hm hp
    go_enter Try.func62, Try.ntmps62
    go_wp2_with fail
    refine (hv.out _ (by (repeat (first | exact Ext.refl _ | assumption | refine Ext.alloc ?_ _ | refine Ext.ext ?_ _ | refine Ext.drew ?_)))).mono ?_
    rintro x w1 ⟨rfl, dv, rfl⟩
    go_wp2_with fail
    refine (fail_m w0 _ M r e [] (hmm.out.ext (by (repeat (first | exact Ext.refl _ | assumption | refine Ext.alloc ?_ _ | refine Ext.ext ?_ _ | refine Ext.drew ?_))))).mono ?_
    rintro x w1 ⟨rfl, hm2⟩
    replace hm2 := Lib.hid hm2
    go_wp2
    (first | (refine bodyPost_end (results_none rfl _ _ _) rfl ?_) | (refine bodyPost_ret (results_none rfl _ _ _) rfl ?_))
    exact ⟨rfl, hm2.out⟩
  · have hw : throw_ r e = succeed r (smp e) 1 := by simp [throw_, he, hs, hd]
    rw [hw]
    have d1 : decide (mx (mx (mx (vel t.S).1 (-(vel t.S).1)) (vel t.S).2) (-(vel t.S).2) < 400) = false := by simpa using hd
    obtain ⟨q, hq⟩ : ∃ q, q = succeed r (smp e) 1 := ⟨_, rfl⟩
    have hsc := Lib.hid fun w h => succeed_m w0 w M r e (smp e) 1 hrl.out h
    rw [← hq] at hsc ⊢
    clear hw hd hs hr he e3 hc h h1 hm hp hq
    go_enter Try.func62, Try.ntmps62
    go_wp2_with fail
    refine (hv.out _ (by (repeat (first | exact Ext.refl _ | assumption | refine Ext.alloc ?_ _ | refine Ext.ext ?_ _ | refine Ext.drew ?_)))).mono ?_
    rintro x w1 ⟨rfl, dv, rfl⟩
    go_wp2_with fail
    refine (sample_any _ _ _ _ _ _ _).mono ?_
    rintro x w1 ⟨rfl, ds, rfl⟩
    go_wp2_with fail
    refine (hsc.out _ (hmm.out.ext (by (repeat (first | exact Ext.refl _ | assumption | refine Ext.alloc ?_ _ | refine Ext.ext ?_ _ | refine Ext.drew ?_))))).mono ?_
    rintro x w1 ⟨rfl, hm2⟩
    replace hm2 := Lib.hid hm2
    go_wp2
    (first | (refine bodyPost_end (results_none rfl _ _ _) rfl ?_) | (refine bodyPost_ret (results_none rfl _ _ _) rfl ?_))
    exact ⟨rfl, hm2.out⟩
end Go.Proofs.Ytendgmnbnnkpnaa.G
