/- The reference: its small functions. The reference: Velocity. -/
import Derived.Test.YtendgmnbnnkpnaaUH
import Derived.WalkKit
import Derived.WalkSpells
import Derived.WalkLawsBesides
import Derived.Deep.QuietTactic
import Derived.BigQuiet
import Derived.BigRegion
import Derived.Lib.Hide
import Derived.Deep.RegionWith
set_option linter.unusedSimpArgs false
set_option linter.unusedVariables false
namespace Go.Proofs.Ytendgmnbnnkpnaa.G
open Go.RowKit
theorem r_near (x : Int) (w : World) : Calls Try.prog 42 #[.int .i64 x] w fun e w' => e = .returned (.bool (btw x (-1048576) 1048576)) ∧ w = w' := by
  go_enter Try.func42, Try.ntmps42
  go_wp2
  all_goals (go_ret; simp [btw]; try omega)
theorem r_timely (x : Int) (w : World) : Calls Try.prog 43 #[.int .i64 x] w fun e w' => e = .returned (.bool (btw x 0 1099511627776)) ∧ w = w' := by
  go_enter Try.func43, Try.ntmps43
  go_wp2
  all_goals (go_ret; simp [btw]; try omega)
theorem r_dragging (a : Int) (w : World) : Calls Try.prog 69 #[.int .i64 a] w fun e w' => e = .returned (.bool (cont a)) ∧ w = w' := by
  go_enter Try.func69, Try.ntmps69
  go_wp2
  all_goals (go_ret; simp [cont, btw]; try omega)
theorem r_dist (s t : Smp) (hs : placed s = true) (ht : placed t = true) (w : World) :
    Calls Try.prog 89 #[.agg #[.int .i64 s.X, .int .i64 s.Y, .int .i64 s.T], .agg #[.int .i64 t.X, .int .i64 t.Y, .int .i64 t.T]] w fun e w' => e = .returned (.int .i64 (dist s t)) ∧ Ext w w' := by
  have h1 := placed_bd hs
  have h2 := placed_bd ht
  have e1 : -(s.X - t.X) = t.X - s.X := by omega
  have e2 : -(s.Y - t.Y) = t.Y - s.Y := by omega
  unfold dist
  rw [e1, e2]
  clear e1 e2 hs ht
  go_enter Try.func89, Try.ntmps89
  go_wp2
  go_ret
  refine ⟨rfl, ?_⟩
  (repeat (first | exact Ext.refl _ | assumption | refine Ext.alloc ?_ _ | refine Ext.ext ?_ _ | refine Ext.drew ?_))
theorem r_over (k n s c lx ly lt : Int) (a : Option Addr) (len cap : Nat) (w : World) :
    Calls Try.prog 46 #[.agg #[.int .i64 k, .int .i64 n, .int .i64 s, .int .i64 c, .slice a len cap, .int .i64 lx, .int .i64 ly, .int .i64 lt]] w fun e w' =>
      e = .returned (.agg #[.int .i64 k, .int .i64 n, .int .i64 4, .int .i64 c, .slice none 0 0, .int .i64 lx, .int .i64 ly, .int .i64 lt]) ∧ Ext w w' := by
  go_enter Try.func46, Try.ntmps46
  go_wp2
  (refine bodyPost_ret (v := ?_) (by simp [results, Try.results46, go_sem]; rfl) rfl ?_)
  refine ⟨rfl, ?_⟩
  (repeat (first | exact Ext.refl _ | assumption | refine Ext.alloc ?_ _ | refine Ext.ext ?_ _ | refine Ext.drew ?_))
theorem r_latest (t : Tch) (sb so cap : Nat) (w : World) (h : TOk t) (hs : SsAt w sb so t.S) :
    Calls Try.prog 88 #[.agg #[.int .i64 t.ID, .int .i64 t.F.X, .int .i64 t.F.Y, .int .i64 t.F.T, .slice (some ⟨sb, so, none⟩) t.S.length cap]] w fun e w' =>
      e = .returned (.agg #[.int .i64 (latest t).X, .int .i64 (latest t).Y, .int .i64 (latest t).T]) ∧ Ext w w' := by
  have hl : 0 < t.S.length := List.length_pos_iff.2 h.ne
  have h8 := h.len
  rw [latest_eq t h.ne]
  obtain ⟨c0, c1, c2⟩ := hs (t.S.length - 1) (by omega)
  have hb := hs.lt hl
  generalize nth t.S (t.S.length - 1) = s at *
  clear hs h
  go_enter Try.func88, Try.ntmps88
  go_wp2
  (refine bodyPost_ret (v := ?_) (by simp [results, Try.results88, go_sem]; rfl) rfl ?_)
  refine ⟨rfl, ?_⟩
  (repeat (first | exact Ext.refl _ | assumption | refine Ext.alloc ?_ _ | refine Ext.ext ?_ _ | refine Ext.drew ?_))
theorem r_valid (e : Ev) (w : World) : Calls Try.prog 72 #[.agg #[.int .i64 (e).Kind, .int .i64 (e).ID, .int .i64 (e).X, .int .i64 (e).Y, .int .i64 (e).Time, .int .i64 (e).Wheel]] w fun x w' => x = .returned (.bool (valid e)) ∧ Ext w w' := by
  by_cases h5 : e.Kind = 5
  · have hv : valid e = btw e.Time 0 1099511627776 := by simp [valid, h5]
    rw [hv]
    have b5 : (e.Kind == 5) = true := by simp [h5]
    clear h5 hv
    go_enter Try.func72, Try.ntmps72
    go_wp2_with (go_at_call 43; refine (r_timely _ _).mono ?_; rintro e w' ⟨rfl, rfl⟩)
    go_ret
    refine ⟨rfl, ?_⟩
    (repeat (first | exact Ext.refl _ | assumption | refine Ext.alloc ?_ _ | refine Ext.ext ?_ _ | refine Ext.drew ?_))
  · have b5 : (e.Kind == 5) = false := by simp [h5]
    have hv : valid e = (decide (1 ≤ e.Kind) && decide (e.Kind ≤ 4) && decide (1 ≤ e.ID) && decide (e.ID ≤ 1000) && btw e.X (-1048576) 1048576 && btw e.Y (-1048576) 1048576 && btw e.Time 0 1099511627776) := by
      rw [Bool.eq_iff_iff]
      simp [valid, h5, placed, btw]
      omega
    rw [hv]
    clear h5 hv
    go_enter Try.func72, Try.ntmps72
    go_wp2_with (first | (go_at_call 43; refine (r_timely _ _).mono ?_; rintro e w' ⟨rfl, rfl⟩) | (go_at_call 42; refine (r_near _ _).mono ?_; rintro e w' ⟨rfl, rfl⟩))
    all_goals
      go_ret
      refine ⟨by (simp_all; try (intros; omega)), ?_⟩
      (repeat (first | exact Ext.refl _ | assumption | refine Ext.alloc ?_ _ | refine Ext.ext ?_ _ | refine Ext.drew ?_))
theorem r_fl (a b : Int) (h1 : -1152921504606846976 ≤ a) (h1' : a ≤ 1152921504606846976) (h2 : 1 ≤ b) : ((if ¬ a.tmod b = 0 ∧ ¬ (a < 0 ↔ b < 0) then wrap64 (a.tdiv b - 1) else a.tdiv b)) = fl a b := by
  split
  · rename_i h
    have : a < 0 := by omega
    refine fl_neg a b h1 h1' h2 ?_
    have := Int.tmod_nonneg b (a := -a) (by omega)
    rw [Int.neg_tmod] at this
    omega
  · rename_i h
    refine fl_pos a b ?_
    by_cases ha : a < 0
    · have : a.tmod b = 0 := by
        by_cases h0 : a.tmod b = 0
        · exact h0
        · exact absurd ⟨h0, by omega⟩ h
      omega
    · exact Int.tmod_nonneg b (by omega)
theorem r_floor (a b : Int) (w : World) (h1 : -1152921504606846976 ≤ a) (h1' : a ≤ 1152921504606846976) (h2 : 0 ≤ b) (h3 : b ≤ 1152921504606846976) :
    Calls Try.prog 26 #[.int .i64 a, .int .i64 b] w fun e w' => e = .returned (.int .i64 (fl a b)) ∧ w = w' := by
  by_cases hb : b = 0
  · subst hb
    have : fl a 0 = 0 := by simp [fl]
    rw [this]
    clear this
    go_enter Try.func26, Try.ntmps26
    go_wp2
    go_ret
    exact ⟨rfl, rfl⟩
  · have b0 : (b == 0) = false := by simp [hb]
    have hfl := r_fl a b h1 h1' (by omega)
    have g1 : decide (a < -1152921504606846976) = false := by simp; omega
    have g2 : decide (1152921504606846976 < a) = false := by simp; omega
    have g3 : decide (b < -1152921504606846976) = false := by simp; omega
    have g4 : decide (1152921504606846976 < b) = false := by simp; omega
    have g5 : decide (b < 0) = false := by simp; omega
    have hqb : -1152921504606846976 ≤ a.tdiv b ∧ a.tdiv b ≤ 1152921504606846976 := by
      have := Int.natAbs_tdiv_le_natAbs a b
      omega
    have hq : wrap64 (a.tdiv b) = a.tdiv b := IntWalk.wrap64_in _ (by omega)
    obtain ⟨hq1, hq2⟩ := hqb
    by_cases ha : a < 0
    · have g6 : decide (a < 0) = true := by simpa using ha
      by_cases hm : a.tmod b = 0
      · have hm0 : (a.tmod b == 0) = true := by simp [hm]
        rw [if_neg (by simp [hm])] at hfl
        rw [← hfl]
        clear hfl hm h1 h1' h2 h3 ha hq1 hq2
        go_enter Try.func26, Try.ntmps26
        go_wp2
        go_ret
        exact ⟨rfl, rfl⟩
      · have hm0 : (a.tmod b == 0) = false := by simp [hm]
        rw [if_pos ⟨hm, by omega⟩] at hfl
        rw [← hfl]
        clear hfl h1 h1' h2 h3 ha hq1 hq2
        go_enter Try.func26, Try.ntmps26
        go_wp2
        go_ret
        exact ⟨rfl, rfl⟩
    · have g6 : decide (a < 0) = false := by simpa using ha
      rw [if_neg (by omega)] at hfl
      rw [← hfl]
      clear hfl h1 h1' h2 h3 ha hq1 hq2
      by_cases hm : a.tmod b = 0
      · have hm0 : (a.tmod b == 0) = true := by simp [hm]
        clear hm
        go_enter Try.func26, Try.ntmps26
        go_wp2
        all_goals (go_ret; exact ⟨rfl, rfl⟩)
      · have hm0 : (a.tmod b == 0) = false := by simp [hm]
        go_enter Try.func26, Try.ntmps26
        go_wp2
        go_ret
        exact ⟨rfl, rfl⟩
end Go.Proofs.Ytendgmnbnnkpnaa.G
namespace Go.Proofs.Ytendgmnbnnkpnaa.G
open Go.RowKit
set_option maxHeartbeats 400000 in
theorem r_vel_nil (a : Option Addr) (cap : Nat) (w : World) :
    Calls Try.prog 25 #[.slice a 0 cap] w fun e w' => e = .returned (.tuple #[.int .i64 0, .int .i64 0]) ∧ Ext w w' := by
  go_enter Try.func25, Try.ntmps25
  go_wp2
  refine wp_loop_rounds 1 ?_
  rw [rounds_succ]
  go_wp2
  go_ret2
  refine ⟨rfl, ?_⟩
  (repeat (first | exact Ext.refl _ | assumption | refine Ext.alloc ?_ _ | refine Ext.ext ?_ _ | refine Ext.drew ?_))
set_option maxRecDepth 100000 in
set_option maxHeartbeats 2000000 in
theorem r_vel_any (cap b off : Nat) (l : List Smp) (w : World) (hpos : 0 < l.length) (hl : l.length ≤ 4611686018427387904) (hs : SsAt w b off l) :
    Calls Try.prog 25 #[.slice (some ⟨b, off, none⟩) l.length cap] w fun e w' =>
      e = .returned (.tuple #[.int .i64 (vel l).1, .int .i64 (vel l).2]) ∧ Ext w w' := by
  have hb := hs.lt hpos
  have hn : ((l.length : Int) == 0) = false := by simp; intro h; simp [h] at hpos
  go_enter Try.func25, Try.ntmps25
  go_wp2
  go_loopw [5] (fun i wr => ∃ k : Nat, k ≤ l.length ∧ i = .int .i64 k ∧ Ext w wr ∧ Hid (∀ j, j < k → good l j = true)) (fun i _ => l.length - (intOf i).toNat)
  case atStart => exact ⟨0, Nat.zero_le _, rfl, Ext.refl _, fun j hj => absurd hj (by omega)⟩
  case round =>
    obtain ⟨k, hk, rfl, ⟨d, rfl⟩, hg⟩ := hrel
    by_cases hlt : k < l.length
    · obtain ⟨c0, c1, c2⟩ := hs k hlt
      cases hp : placed (nth l k)
      · -- not placed
        have hbad : Hid (velOk l = false) := velOk_not l k hlt (by simp [good, hp])
        generalize nth l k = s at *
        have hb3 : btw s.X (-1048576) 1048576 = false ∨ btw s.X (-1048576) 1048576 = true ∧ btw s.Y (-1048576) 1048576 = false ∨ btw s.X (-1048576) 1048576 = true ∧ btw s.Y (-1048576) 1048576 = true ∧ btw s.T 0 1099511627776 = false := by
          rcases b1 : btw s.X (-1048576) 1048576 with _ | _
          · exact .inl rfl
          · rcases b2 : btw s.Y (-1048576) 1048576 with _ | _
            · exact .inr (.inl ⟨rfl, rfl⟩)
            · refine .inr (.inr ⟨rfl, rfl, ?_⟩)
              unfold placed at hp
              rw [b1, b2] at hp
              simpa using hp
        clear hp
        rcases hb3 with b1 | ⟨b1, b2⟩ | ⟨b1, b2, b3⟩
        all_goals
          go_wp2
          (refine wp_region_ext (by kernel_rfl) (by kernel_rfl) ?_; (repeat (go_big_quiet_step ((first | (go_at_call 42; exact Calls.quiet_same (r_near _ _)) | (go_at_call 43; exact Calls.quiet_same (r_timely _ _)))))); refine wpQuiet_nil ?_; intro _ hwq; obtain ⟨dq, hwq⟩ := hwq; subst hwq)
          go_wp2
          go_ret2
          refine ⟨?_, ?_⟩
          · rw [vel_bad l hbad.out]; rfl
          · (repeat (first | exact Ext.refl _ | assumption | refine Ext.alloc ?_ _ | refine Ext.ext ?_ _ | refine Ext.drew ?_))
      · have hb3 : btw (nth l k).X (-1048576) 1048576 = true ∧ btw (nth l k).Y (-1048576) 1048576 = true ∧ btw (nth l k).T 0 1099511627776 = true := by
          simpa [placed, and_assoc] using hp
        obtain ⟨b1, b2, b3⟩ := hb3
        by_cases hk0 : k = 0
        · have hgk : Hid (∀ j, j < k + 1 → good l j = true) := fun j hj => by
            obtain rfl : j = k := by omega
            unfold good; rw [hp]; simp [hk0]
          clear hg hp
          generalize nth l k = s at *
          have hk1 : decide (0 < k) = false := by simp; omega
          have hk2 : k < 1 := by omega
          clear hk0
          go_wp2
          (refine wp_region_ext (by kernel_rfl) (by kernel_rfl) ?_; (repeat (go_big_quiet_step ((first | (go_at_call 42; exact Calls.quiet_same (r_near _ _)) | (go_at_call 43; exact Calls.quiet_same (r_timely _ _)))))); refine wpQuiet_nil ?_; intro _ hwq; obtain ⟨dq, hwq⟩ := hwq; subst hwq)
          go_wp2
          go_roundw
          case rel => exact ⟨k + 1, by omega, by go_num, (by (repeat (first | exact Ext.refl _ | assumption | refine Ext.alloc ?_ _ | refine Ext.ext ?_ _ | refine Ext.drew ?_))), hgk⟩
          case measure => simp [intOf]; omega
        · have hk1 : 0 < k := by omega
          have hk2 : decide (0 < k) = true := by simp; omega
          obtain ⟨_, _, e2⟩ := hs (k - 1) (by omega)
          by_cases hlate : (nth l k).T < (nth l (k - 1)).T
          · have hbad : Hid (velOk l = false) := velOk_not l k hlt (by simp [good, hp, hk0, hlate])
            clear hg hp
            generalize nth l k = s at *
            generalize nth l (k - 1) = s' at *
            go_wp2
            (refine wp_region_ext (by kernel_rfl) (by kernel_rfl) ?_; (repeat (go_big_quiet_step ((first | (go_at_call 42; exact Calls.quiet_same (r_near _ _)) | (go_at_call 43; exact Calls.quiet_same (r_timely _ _)))))); refine wpQuiet_nil ?_; intro _ hwq; obtain ⟨dq, hwq⟩ := hwq; subst hwq)
            go_wp2
            go_ret2
            refine ⟨?_, ?_⟩
            · rw [vel_bad l hbad.out]; rfl
            · (repeat (first | exact Ext.refl _ | assumption | refine Ext.alloc ?_ _ | refine Ext.ext ?_ _ | refine Ext.drew ?_))
          · have hgk : Hid (∀ j, j < k + 1 → good l j = true) := fun j hj => by
              by_cases hj' : j < k
              · exact hg j hj'
              · obtain rfl : j = k := by omega
                simp only [good, hp, Bool.true_and, Bool.or_eq_true, Bool.not_eq_true', decide_eq_false_iff_not]
                exact .inr hlate
            clear hg hp
            generalize nth l k = s at *
            generalize nth l (k - 1) = s' at *
            go_wp2
            (refine wp_region_ext (by kernel_rfl) (by kernel_rfl) ?_; (repeat (go_big_quiet_step ((first | (go_at_call 42; exact Calls.quiet_same (r_near _ _)) | (go_at_call 43; exact Calls.quiet_same (r_timely _ _)))))); refine wpQuiet_nil ?_; intro _ hwq; obtain ⟨dq, hwq⟩ := hwq; subst hwq)
            go_wp2
            go_roundw
            case rel => exact ⟨k + 1, by omega, by go_num, (by (repeat (first | exact Ext.refl _ | assumption | refine Ext.alloc ?_ _ | refine Ext.ext ?_ _ | refine Ext.drew ?_))), hgk⟩
            case measure => simp [intOf]; omega
    · obtain rfl : k = l.length := by omega
      obtain ⟨c0, c1, c2⟩ := hs (l.length - 1) (by omega)
      have hv : Hid (velOk l = true) := velOk_of l hg
      have hlb := placed_bd (good_placed l _ (hg (l.length - 1) (by omega)))
      have hvel : Hid (∀ f, (l.find? fun s => decide ((nth l (l.length - 1)).T - 100 ≤ s.T)).getD (nth l (l.length - 1)) = f → vel l = (fl (1000 * ((nth l (l.length - 1)).X - f.X)) ((nth l (l.length - 1)).T - f.T), fl (1000 * ((nth l (l.length - 1)).Y - f.Y)) ((nth l (l.length - 1)).T - f.T))) := fun f hf => vel_ok l hpos (velOk_of l hg) f hf
      have htm : Hid (∀ k, k < l.length → (nth l k).T ≤ (nth l (l.length - 1)).T) := fun k hk => times_le l (velOk_of l hg) _ _ (by omega) (by omega)
      have hlastne : Hid (∀ k, (nth l k).T < (nth l (l.length - 1)).T - 100 → k ≠ l.length - 1) := fun k hk he => by rw [he] at hk; omega
      clear hg hlt hk
      generalize nth l (l.length - 1) = z at *
      go_wp2
      go_loopw [7] (fun i wr => ∃ k : Nat, k < l.length ∧ i = .int .i64 k ∧ Ext ((w.ext d).alloc (Obj.cells #[.int .i64 z.X, .int .i64 z.Y, .int .i64 z.T] 24)) wr ∧ Hid (∀ j, j < k → decide (z.T - 100 ≤ (nth l j).T) = false)) (fun i _ => l.length - (intOf i).toNat)
      case atStart => exact ⟨0, hpos, rfl, Ext.refl _, fun j hj => absurd hj (by omega)⟩
      case round =>
        obtain ⟨k, hlt, rfl, ⟨d', rfl⟩, hg⟩ := hrel
        obtain ⟨c0, c1, c2⟩ := hs k hlt
        have hkb := placed_bd (good_placed l _ (velOk_good l hv.out k hlt))
        have hkt := htm k hlt
        by_cases hh : z.T - 100 ≤ (nth l k).T
        · have hfin := hvel (nth l k) (by rw [find_of l (fun s => decide (z.T - 100 ≤ s.T)) k hlt hg (by simpa using hh)]; rfl)
          clear hvel htm hg hlastne
          replace hfin := Lib.hid hfin
          generalize nth l k = s at *
          have hh2 : decide (s.T < z.T - 100) = false := by simp; omega
          go_wp2
          (refine wp_region_ext (by kernel_rfl) (by kernel_rfl) ?_; (repeat (go_big_quiet_step ((fail)))); refine wpQuiet_nil ?_; intro _ hwq; obtain ⟨dq, hwq⟩ := hwq; subst hwq)
          go_wp2
          (refine wp_region_ext (by kernel_rfl) (by kernel_rfl) ?_; (repeat (go_big_quiet_step ((fail)))); refine wpQuiet_nil ?_; intro _ hwq; obtain ⟨dq, hwq⟩ := hwq; subst hwq)
          go_wp2
          (refine wp_region_ext (by kernel_rfl) (by kernel_rfl) ?_; (repeat (go_big_quiet_step ((go_at_call 26; exact Calls.quiet_same (r_floor _ _ _ (by omega) (by omega) (by omega) (by omega)))))); refine wpQuiet_nil ?_; intro _ hwq; obtain ⟨dq, hwq⟩ := hwq; subst hwq)
          go_wp2
          go_ret2
          refine ⟨?_, ?_⟩
          · rw [hfin.out]; rfl
          · (repeat (first | exact Ext.refl _ | assumption | refine Ext.alloc ?_ _ | refine Ext.ext ?_ _ | refine Ext.drew ?_))
        · have hgk : Hid (∀ j, j < k + 1 → decide (z.T - 100 ≤ (nth l j).T) = false) := fun j hj => by
            by_cases hj' : j < k
            · exact hg j hj'
            · obtain rfl : j = k := by omega
              simpa using hh
          have hk1 : k + 1 < l.length := by
            have := hlastne k (by omega)
            omega
          clear hg hvel htm hlastne
          generalize nth l k = s at *
          have hh2 : decide (s.T < z.T - 100) = true := by simp; omega
          go_wp2
          (refine wp_region_ext (by kernel_rfl) (by kernel_rfl) ?_; (repeat (go_big_quiet_step ((fail)))); refine wpQuiet_nil ?_; intro _ hwq; obtain ⟨dq, hwq⟩ := hwq; subst hwq)
          go_wp2
          go_roundw
          case rel => exact ⟨k + 1, by omega, by go_num, (by (repeat (first | exact Ext.refl _ | assumption | refine Ext.alloc ?_ _ | refine Ext.ext ?_ _ | refine Ext.drew ?_))), hgk⟩
          case measure => simp [intOf]; omega
end Go.Proofs.Ytendgmnbnnkpnaa.G
