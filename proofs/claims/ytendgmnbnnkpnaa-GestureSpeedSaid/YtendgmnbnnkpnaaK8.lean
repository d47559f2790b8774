/- process. -/
import Derived.Test.YtendgmnbnnkpnaaK7
import Derived.WalkKit
import Derived.WalkSpells
import Derived.WalkLawsBesides
import Derived.Deep.QuietTactic
import Derived.BigQuiet
import Derived.BigRegion
import Derived.Lib.Hide
import Derived.Deep.RegionWith
set_option linter.unusedSimpArgs false
set_option linter.unusedVariables false
namespace Go.Proofs.Ytendgmnbnnkpnaa.G
open Go.RowKit
theorem find_none_idx {r : Rec} {e : Ev} (h : find r.Ts e.ID = none) : idx r e = -1 := by
  simp only [idx, h]; split <;> rfl
theorem find_some_idx {r : Rec} {e : Ev} {i : Nat} (h5 : ¬ e.Kind = 5) (h : find r.Ts e.ID = some i) : idx r e = (i : Int) := by
  simp only [idx, if_neg h5, h]
set_option maxRecDepth 100000 in
set_option maxHeartbeats 2000000 in
theorem process_idle (w0 w : World) (M : Nat) (r : Rec) (e : Ev) (hr : ROk r) (hi : e.Kind = 5 ∨ (find r.Ts e.ID = none ∧ ¬ e.Kind = 1) ∨ (∃ i, find r.Ts e.ID = some i ∧ e.Kind = 1)) (h : MachS w0 w M r e) :
    Calls Try.prog 36 #[.pointer (some ⟨M, 0, none⟩)] w fun x w' => x = .returned (.tuple #[]) ∧ MachE w0 w' M (process r e).1 e (process r e).2.1 (process r e).2.2 := by
  have htc := fun w (h : Mach w0 w M r e 0 []) => touch_m w0 w M r e 0 [] hr h
  have hw : process r e = (r, 0, []) := by
    rcases hi with h | ⟨h1, h2⟩ | ⟨i, h1, h2⟩
    · simp [process, h]
    · simp only [process, h1, if_neg h2]; split <;> rfl
    · simp [process, h1, h2]
  rw [hw]
  have hmm := Lib.hid (h.weak hr)
  obtain ⟨a, c, o, hM, hc, _⟩ := (h.weak hr).read
  have c8 : w.cell? ⟨M, 8, none⟩ = some (.int .i64 e.Kind) := hc 8 _ rfl
  clear hw hc h
  by_cases h5 : e.Kind = 5
  · have b5 : (e.Kind == 5) = true := by simp [h5]
    clear hi hr h5
    replace htc := Lib.hid htc
    go_enter Try.func36, Try.ntmps36
    go_wp2_with fail
    refine (htc.out _ (hmm.out.ext (by (repeat (first | exact Ext.refl _ | assumption | refine Ext.alloc ?_ _ | refine Ext.ext ?_ _ | refine Ext.drew ?_))))).mono ?_
    rintro x w1 ⟨rfl, d, rfl⟩
    go_wp2
    (first | (refine bodyPost_end (results_none rfl _ _ _) rfl ?_) | (refine bodyPost_ret (results_none rfl _ _ _) rfl ?_))
    refine ⟨rfl, hmm.out.fin.ext ?_⟩
    (repeat (first | exact Ext.refl _ | assumption | refine Ext.alloc ?_ _ | refine Ext.ext ?_ _ | refine Ext.drew ?_))
  · have b5 : (e.Kind == 5) = false := by simp [h5]
    rcases hi with h | ⟨h1, h2⟩ | ⟨i, h1, h2⟩
    · exact absurd h h5
    · have b1 : (e.Kind == 1) = false := by simp [h2]
      rw [find_none_idx h1] at htc
      clear hr h1 h2 h5
      replace htc := Lib.hid htc
      go_enter Try.func36, Try.ntmps36
      go_wp2_with fail
      refine (htc.out _ (hmm.out.ext (by (repeat (first | exact Ext.refl _ | assumption | refine Ext.alloc ?_ _ | refine Ext.ext ?_ _ | refine Ext.drew ?_))))).mono ?_
      rintro x w1 ⟨rfl, d, rfl⟩
      go_wp2
      (first | (refine bodyPost_end (results_none rfl _ _ _) rfl ?_) | (refine bodyPost_ret (results_none rfl _ _ _) rfl ?_))
      refine ⟨rfl, hmm.out.fin.ext ?_⟩
      (repeat (first | exact Ext.refl _ | assumption | refine Ext.alloc ?_ _ | refine Ext.ext ?_ _ | refine Ext.drew ?_))
    · have b1 : (e.Kind == 1) = true := by simp [h2]
      rw [find_some_idx h5 h1] at htc
      clear hr h1 h2 h5
      replace htc := Lib.hid htc
      go_enter Try.func36, Try.ntmps36
      go_wp2_with fail
      refine (htc.out _ (hmm.out.ext (by (repeat (first | exact Ext.refl _ | assumption | refine Ext.alloc ?_ _ | refine Ext.ext ?_ _ | refine Ext.drew ?_))))).mono ?_
      rintro x w1 ⟨rfl, d, rfl⟩
      go_wp2
      (first | (refine bodyPost_end (results_none rfl _ _ _) rfl ?_) | (refine bodyPost_ret (results_none rfl _ _ _) rfl ?_))
      refine ⟨rfl, hmm.out.fin.ext ?_⟩
      (repeat (first | exact Ext.refl _ | assumption | refine Ext.alloc ?_ _ | refine Ext.ext ?_ _ | refine Ext.drew ?_))
set_option maxRecDepth 100000 in
set_option maxHeartbeats 2000000 in
theorem process_down (w0 w : World) (M : Nat) (r : Rec) (e : Ev) (hr : ROk r) (hp : placed (smp e) = true) (h1 : find r.Ts e.ID = none) (h2 : e.Kind = 1) (h : MachS w0 w M r e) :
    Calls Try.prog 36 #[.pointer (some ⟨M, 0, none⟩)] w fun x w' => x = .returned (.tuple #[]) ∧ MachE w0 w' M (process r e).1 e (process r e).2.1 (process r e).2.2 := by
  have htc := fun w (h : Mach w0 w M r e 0 []) => touch_m w0 w M r e 0 [] hr h
  rw [find_none_idx h1] at htc
  have hw : process r e = down r e := by simp [process, h1, h2]
  rw [hw]
  have hmm := Lib.hid (h.weak hr)
  have hms := Lib.hid h
  have hdn := Lib.hid fun w h => down_m w0 w M r e hr hp h
  obtain ⟨a, c, o, hM, hc, _⟩ := (h.weak hr).read
  have c8 : w.cell? ⟨M, 8, none⟩ = some (.int .i64 e.Kind) := hc 8 _ rfl
  have b5 : (e.Kind == 5) = false := by simp [h2]
  have b1 : (e.Kind == 1) = true := by simp [h2]
  clear hw hc h h1 h2 hr hp
  replace htc := Lib.hid htc
  go_enter Try.func36, Try.ntmps36
  go_wp2_with fail
  refine (htc.out _ (hmm.out.ext (by (repeat (first | exact Ext.refl _ | assumption | refine Ext.alloc ?_ _ | refine Ext.ext ?_ _ | refine Ext.drew ?_))))).mono ?_
  rintro x w1 ⟨rfl, d, rfl⟩
  go_wp2_with fail
  refine (hdn.out _ (hms.out.ext (by (repeat (first | exact Ext.refl _ | assumption | refine Ext.alloc ?_ _ | refine Ext.ext ?_ _ | refine Ext.drew ?_))))).mono ?_
  rintro x w1 ⟨rfl, hm2⟩
  replace hm2 := Lib.hid hm2.fin
  go_wp2
  (first | (refine bodyPost_end (results_none rfl _ _ _) rfl ?_) | (refine bodyPost_ret (results_none rfl _ _ _) rfl ?_))
  exact ⟨rfl, hm2.out⟩
set_option maxRecDepth 100000 in
set_option maxHeartbeats 2000000 in
theorem process_cancel (w0 w : World) (M : Nat) (r : Rec) (e : Ev) (i : Nat) (hr : ROk r) (h1 : find r.Ts e.ID = some i) (h2 : e.Kind = 4) (h : MachS w0 w M r e) :
    Calls Try.prog 36 #[.pointer (some ⟨M, 0, none⟩)] w fun x w' => x = .returned (.tuple #[]) ∧ MachE w0 w' M (process r e).1 e (process r e).2.1 (process r e).2.2 := by
  have htc := fun w (h : Mach w0 w M r e 0 []) => touch_m w0 w M r e 0 [] hr h
  rw [find_some_idx (by omega) h1] at htc
  have hw : process r e = cancelR r := by simp [process, h1, h2, cancelR]
  rw [hw]
  have hmm := Lib.hid (h.weak hr)
  have hdn := Lib.hid fun w h => cancel_m w0 w M r e hr h
  obtain ⟨a, c, o, hM, hc, _⟩ := (h.weak hr).read
  have c8 : w.cell? ⟨M, 8, none⟩ = some (.int .i64 e.Kind) := hc 8 _ rfl
  have b5 : (e.Kind == 5) = false := by simp [h2]
  have b1 : (e.Kind == 1) = false := by simp [h2]
  have b4 : (e.Kind == 4) = true := by simp [h2]
  have bi : decide ((i : Int) < 0) = false := by simp
  clear hw hc h h1 h2 hr
  replace htc := Lib.hid htc
  go_enter Try.func36, Try.ntmps36
  go_wp2_with fail
  refine (htc.out _ (hmm.out.ext (by (repeat (first | exact Ext.refl _ | assumption | refine Ext.alloc ?_ _ | refine Ext.ext ?_ _ | refine Ext.drew ?_))))).mono ?_
  rintro x w1 ⟨rfl, d, rfl⟩
  go_wp2_with fail
  refine (hdn.out _ (hmm.out.ext (by (repeat (first | exact Ext.refl _ | assumption | refine Ext.alloc ?_ _ | refine Ext.ext ?_ _ | refine Ext.drew ?_))))).mono ?_
  rintro x w1 ⟨rfl, hm2⟩
  replace hm2 := Lib.hid hm2
  go_wp2
  (first | (refine bodyPost_end (results_none rfl _ _ _) rfl ?_) | (refine bodyPost_ret (results_none rfl _ _ _) rfl ?_))
  exact ⟨rfl, hm2.out⟩
/-- what follows upon the new sample -/
def moved (r : Rec) (e : Ev) : Rec × Int × List Ges := if r.Kind ≤ 3 then still r e else if r.Kind = 8 then throw_ r e else slide r e
set_option maxRecDepth 100000 in
set_option maxHeartbeats 2000000 in
theorem process_move (w0 w : World) (M : Nat) (r : Rec) (e : Ev) (i : Nat) (hr : ROk r) (hp : placed (smp e) = true) (h1 : find r.Ts e.ID = some i) (h2 : e.Kind = 2 ∨ e.Kind = 3) (h : MachS w0 w M r e) :
    Calls Try.prog 36 #[.pointer (some ⟨M, 0, none⟩)] w fun x w' => x = .returned (.tuple #[]) ∧ MachE w0 w' M (process r e).1 e (process r e).2.1 (process r e).2.2 := by
  have htc := fun w (h : Mach w0 w M r e 0 []) => touch_m w0 w M r e 0 [] hr h
  rw [find_some_idx (by omega) h1] at htc
  obtain ⟨t, hti, hid⟩ := find_some h1
  have hf := Lib.hid fun w h => follow_m w0 w M r e i t hr hti h
  have hr2 := follow_ok (i := i) hr hp
  obtain ⟨r2, hr2d⟩ : ∃ r2 : Rec, r2 = { r with Ts := follow r.Ts i (smp e) } := ⟨_, rfl⟩
  have hw : process r e = moved r2 e := by
    have a5 : ¬ e.Kind = 5 := by omega
    have a1 : ¬ e.Kind = 1 := by omega
    have a4 : ¬ e.Kind = 4 := by omega
    rw [hr2d]
    simp only [process, h1, if_neg a5, if_neg a1, if_neg a4, moved]
  rw [hw]
  have hk : r2.Kind = r.Kind := by rw [hr2d]
  have hfl : r2.Ts[i]? = some ⟨t.ID, t.F, more t.S (smp e)⟩ := by
    have hi := (List.getElem?_eq_some_iff.1 hti).1
    rw [hr2d]
    simp only [follow, hti]
    simp [hi]
  rw [← hr2d] at hf hr2
  have hmm := Lib.hid (h.weak hr)
  have hms := Lib.hid h
  have b5 : (e.Kind == 5) = false := by simp; omega
  have b1 : (e.Kind == 1) = false := by simp; omega
  have b4 : (e.Kind == 4) = false := by simp; omega
  have bi : decide ((i : Int) < 0) = false := by simp
  have k2 := hr2.kind
  have hone : (r2.Kind ≤ 3 ∨ r2.Kind = 8) → i = 0 ∧ ∃ t, r2.Ts = [t] ∧ t.ID = e.ID := by
    intro hk3
    rcases hr2.shape with hs | ⟨t', hs, _⟩ | ⟨t', u', hs, _, _, h7⟩
    · rw [hs] at hfl; cases hfl
    · have hi0 : i = 0 := by rw [hs] at hfl; have := (List.getElem?_eq_some_iff.1 hfl).1; simpa using this
      subst hi0
      rw [hs] at hfl
      refine ⟨rfl, t', hs, ?_⟩
      simp only [List.getElem?_cons_zero, Option.some.injEq] at hfl
      rw [hfl]; exact hid
    · omega
  have hne : r2.Ts ≠ [] := fun h0 => by rw [h0] at hfl; cases hfl
  obtain ⟨a, c, o, hM, hc, _⟩ := (h.weak hr).read
  have c8 : w.cell? ⟨M, 8, none⟩ = some (.int .i64 e.Kind) := hc 8 _ rfl
  replace hr2d := Lib.hid hr2d
  replace htc := Lib.hid htc
  clear hw hc h h1 hr hti hid hfl hk
  by_cases hk3 : r2.Kind ≤ 3
  · obtain ⟨rfl, t', hs, hid⟩ := hone (.inl hk3)
    have hst := Lib.hid fun w h => still_m w0 w M r2 e t' hr2 hk3 hs hid hp h2 h
    have hw : moved r2 e = still r2 e := by simp only [moved, if_pos hk3]
    rw [hw]
    have e13 : (r2.Kind == 1) = true ∨ (r2.Kind == 1) = false ∧ (r2.Kind == 2) = true ∨ (r2.Kind == 1) = false ∧ (r2.Kind == 2) = false ∧ (r2.Kind == 3) = true := by
      simp only [beq_iff_eq, beq_eq_false_iff_ne]; omega
    clear hw hone hne hr2 k2 hk3 h2 hs
    rcases e13 with e1 | ⟨e1, e2⟩ | ⟨e1, e2, e3⟩
    all_goals
      go_enter Try.func36, Try.ntmps36
      go_wp2_with fail
      refine (htc.out _ (hmm.out.ext (by (repeat (first | exact Ext.refl _ | assumption | refine Ext.alloc ?_ _ | refine Ext.ext ?_ _ | refine Ext.drew ?_))))).mono ?_
      rintro x w1 ⟨rfl, d, rfl⟩
      go_wp2_with fail
      refine (hf.out _ (hms.out.ext (by (repeat (first | exact Ext.refl _ | assumption | refine Ext.alloc ?_ _ | refine Ext.ext ?_ _ | refine Ext.drew ?_))))).mono ?_
      rintro x w1 ⟨rfl, hm2⟩
      obtain ⟨a2, cc2, o2, hM2, hc2, _⟩ := hm2.read
      have k0 : w1.cell? ⟨M, 0, none⟩ = some (.int .i64 r2.Kind) := hc2 0 _ rfl
      have k8 : w1.cell? ⟨M, 8, none⟩ = some (.int .i64 e.Kind) := hc2 8 _ rfl
      replace hm2 := Lib.hid hm2
      clear hc2
      go_wp2_with fail
      refine (hst.out _ (hm2.out.ext (by (repeat (first | exact Ext.refl _ | assumption | refine Ext.alloc ?_ _ | refine Ext.ext ?_ _ | refine Ext.drew ?_))))).mono ?_
      rintro x w2 ⟨rfl, hm3⟩
      replace hm3 := Lib.hid hm3.fin
      go_wp2
      (first | (refine bodyPost_end (results_none rfl _ _ _) rfl ?_) | (refine bodyPost_ret (results_none rfl _ _ _) rfl ?_))
      exact ⟨rfl, hm3.out⟩
  · by_cases hk8 : r2.Kind = 8
    · obtain ⟨rfl, t', hs, hid⟩ := hone (.inr hk8)
      have hst := Lib.hid fun w h => throw_m w0 w M r2 e t' hr2 hs hp h2 h
      have hw : moved r2 e = throw_ r2 e := by simp only [moved, if_neg hk3, if_pos hk8]
      rw [hw]
      have e1 : (r2.Kind == 1) = false := by simp; omega
      have e2 : (r2.Kind == 2) = false := by simp; omega
      have e3 : (r2.Kind == 3) = false := by simp; omega
      have e8 : (r2.Kind == 8) = true := by simp [hk8]
      clear hw hone hne hr2 k2 hk3 h2 hs hk8
      go_enter Try.func36, Try.ntmps36
      go_wp2_with fail
      refine (htc.out _ (hmm.out.ext (by (repeat (first | exact Ext.refl _ | assumption | refine Ext.alloc ?_ _ | refine Ext.ext ?_ _ | refine Ext.drew ?_))))).mono ?_
      rintro x w1 ⟨rfl, d, rfl⟩
      go_wp2_with fail
      refine (hf.out _ (hms.out.ext (by (repeat (first | exact Ext.refl _ | assumption | refine Ext.alloc ?_ _ | refine Ext.ext ?_ _ | refine Ext.drew ?_))))).mono ?_
      rintro x w1 ⟨rfl, hm2⟩
      obtain ⟨a2, cc2, o2, hM2, hc2, _⟩ := hm2.read
      have k0 : w1.cell? ⟨M, 0, none⟩ = some (.int .i64 r2.Kind) := hc2 0 _ rfl
      have k8 : w1.cell? ⟨M, 8, none⟩ = some (.int .i64 e.Kind) := hc2 8 _ rfl
      replace hm2 := Lib.hid hm2
      clear hc2
      go_wp2_with fail
      refine (hst.out _ (hm2.out.ext (by (repeat (first | exact Ext.refl _ | assumption | refine Ext.alloc ?_ _ | refine Ext.ext ?_ _ | refine Ext.drew ?_))))).mono ?_
      rintro x w2 ⟨rfl, hm3⟩
      replace hm3 := Lib.hid hm3.fin
      go_wp2
      (first | (refine bodyPost_end (results_none rfl _ _ _) rfl ?_) | (refine bodyPost_ret (results_none rfl _ _ _) rfl ?_))
      exact ⟨rfl, hm3.out⟩
    · have hst := Lib.hid fun w h => slide_m w0 w M r2 e i hr2 (by omega) hne h
      have hw : moved r2 e = slide r2 e := by simp only [moved, if_neg hk3, if_neg hk8]
      rw [hw]
      have e1 : (r2.Kind == 1) = false := by simp; omega
      have e2 : (r2.Kind == 2) = false := by simp; omega
      have e3 : (r2.Kind == 3) = false := by simp; omega
      have e8 : (r2.Kind == 8) = false := by simp [hk8]
      clear hw hone hne hr2 k2 hk3 h2 hk8
      go_enter Try.func36, Try.ntmps36
      go_wp2_with fail
      refine (htc.out _ (hmm.out.ext (by (repeat (first | exact Ext.refl _ | assumption | refine Ext.alloc ?_ _ | refine Ext.ext ?_ _ | refine Ext.drew ?_))))).mono ?_
      rintro x w1 ⟨rfl, d, rfl⟩
      go_wp2_with fail
      refine (hf.out _ (hms.out.ext (by (repeat (first | exact Ext.refl _ | assumption | refine Ext.alloc ?_ _ | refine Ext.ext ?_ _ | refine Ext.drew ?_))))).mono ?_
      rintro x w1 ⟨rfl, hm2⟩
      obtain ⟨a2, cc2, o2, hM2, hc2, _⟩ := hm2.read
      have k0 : w1.cell? ⟨M, 0, none⟩ = some (.int .i64 r2.Kind) := hc2 0 _ rfl
      have k8 : w1.cell? ⟨M, 8, none⟩ = some (.int .i64 e.Kind) := hc2 8 _ rfl
      replace hm2 := Lib.hid hm2
      clear hc2
      go_wp2_with fail
      refine (hst.out _ (hm2.out.ext (by (repeat (first | exact Ext.refl _ | assumption | refine Ext.alloc ?_ _ | refine Ext.ext ?_ _ | refine Ext.drew ?_))))).mono ?_
      rintro x w2 ⟨rfl, hm3⟩
      replace hm3 := Lib.hid hm3.fin
      go_wp2
      (first | (refine bodyPost_end (results_none rfl _ _ _) rfl ?_) | (refine bodyPost_ret (results_none rfl _ _ _) rfl ?_))
      exact ⟨rfl, hm3.out⟩
theorem valid_kind {e : Ev} (hv : valid e = true) : 1 ≤ e.Kind ∧ e.Kind ≤ 5 := by
  by_cases h5 : e.Kind = 5
  · omega
  · simp [valid, h5, btw] at hv; omega
theorem process_m (w0 w : World) (M : Nat) (r : Rec) (e : Ev) (hr : ROk r) (hv : valid e = true) (h : MachS w0 w M r e) :
    Calls Try.prog 36 #[.pointer (some ⟨M, 0, none⟩)] w fun x w' => x = .returned (.tuple #[]) ∧ MachE w0 w' M (process r e).1 e (process r e).2.1 (process r e).2.2 := by
  have hk := valid_kind hv
  by_cases h5 : e.Kind = 5
  · exact process_idle w0 w M r e hr (.inl h5) h
  · have hp := smp_placed hv h5
    cases hf : find r.Ts e.ID with
    | none =>
      by_cases h1 : e.Kind = 1
      · exact process_down w0 w M r e hr hp hf h1 h
      · exact process_idle w0 w M r e hr (.inr (.inl ⟨hf, h1⟩)) h
    | some i =>
      by_cases h1 : e.Kind = 1
      · exact process_idle w0 w M r e hr (.inr (.inr ⟨i, hf, h1⟩)) h
      · by_cases h4 : e.Kind = 4
        · exact process_cancel w0 w M r e i hr hf h4 h
        · exact process_move w0 w M r e i hr hp hf (by omega) h
end Go.Proofs.Ytendgmnbnnkpnaa.G
