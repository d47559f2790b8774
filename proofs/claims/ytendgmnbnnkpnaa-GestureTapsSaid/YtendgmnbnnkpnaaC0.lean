/- GestureTaps: what the calls are. -/
import Derived.Test.YtendgmnbnnkpnaaA0
import Derived.WalkKit
import Derived.WalkSpells
import Derived.WalkLawsBesides
import Derived.Deep.QuietTactic
import Derived.BigQuiet
import Derived.BigRegion
import Derived.Lib.Hide
import Derived.Deep.RegionWith
set_option linter.unusedSimpArgs false
set_option linter.unusedVariables false
set_option linter.unusedSectionVars false
namespace Go.Proofs.Ytendgmnbnnkpnaa.G
open Go.RowKit
theorem tdiv8_bd (x : Int) (h : -128 ≤ x ∧ x ≤ 127) : -16 ≤ x.tdiv 8 ∧ x.tdiv 8 ≤ 16 := by
  have h2 : Int.sign 8 = 1 := rfl
  rw [Int.tdiv_eq_ediv, h2]
  split <;> omega
section
variable (X Y Z t1 t2 t3 : Int) (hX : -16 ≤ X ∧ X ≤ 16) (hY : -16 ≤ Y ∧ Y ≤ 16) (hZ : -16 ≤ Z ∧ Z ≤ 16) (h1 : 0 ≤ t1 ∧ t1 < 400) (h2 : t1 ≤ t2 ∧ t2 < 800) (h3 : t2 ≤ t3 ∧ t3 < 1200)
  (b1 b2 b3 b4 b5 : Bool) (hb1 : decide (mx (mx (mx X (-X)) Y) (-Y) ≤ 8) = b1) (hb2 : decide (t1 ≤ 300) = b2) (hb3 : decide (t2 - t1 ≤ 300) = b3) (hb4 : decide (mx (Z - X) (X - Z) ≤ 8) = b4) (hb5 : decide (t3 - t2 ≤ 300) = b5)
include hX hY h1 hb1 hb2
theorem tap_up1 (k : Int) (hk : k = 1 ∨ k = 2) : (b1 && b2) = false → feed (tapR k) ⟨3, 1, X, Y, t1, 0⟩ = (over (tapR k), 2, []) := by
  intro h
  refine tap_bad X Y t1 (by omega) (by omega) (by omega) k hk ?_
  have hd : dist ⟨X, Y, t1⟩ ⟨0, 0, 0⟩ = mx (mx (mx X (-X)) Y) (-Y) := by simp [dist]
  rw [hd]
  rw [← hb1, ← hb2] at h
  simp at h
  omega
theorem tap_up2 : (b1 && b2) = true → ¬ 300 < t1 ∧ ¬ 8 < dist ⟨X, Y, t1⟩ ⟨0, 0, 0⟩ := by
  intro h
  have hd : dist ⟨X, Y, t1⟩ ⟨0, 0, 0⟩ = mx (mx (mx X (-X)) Y) (-Y) := by simp [dist]
  rw [hd]
  rw [← hb1, ← hb2] at h
  simp at h
  omega
theorem taps_one : ∃ q1 q2, FeedC (newR 1 1) ⟨1, 1, 0, 0, 0, 0⟩ q1 ∧ FeedC q1.1 ⟨3, 1, X, Y, t1, 0⟩ q2 ∧ q2.1.State = (if b1 && b2 then 2 else 4) ∧ q2.2.1 = (if b1 && b2 then 0 else 2) := by
  have s0 : Sound (newR 1 1) := newR_sound rfl rfl
  have s1 := s0.feed ⟨1, 1, 0, 0, 0, 0⟩
  have e1 := tap_dn 1 (.inl rfl)
  refine ⟨_, _, feedC s0 _, feedC s1 _, ?_⟩
  rw [e1]
  simp only
  cases hb : b1 && b2
  · rw [tap_up1 X Y t1 hX hY h1 b1 b2 hb1 hb2 1 (.inl rfl) hb]; exact ⟨rfl, rfl⟩
  · obtain ⟨u1, u2⟩ := tap_up2 X Y t1 hX hY h1 b1 b2 hb1 hb2 hb
    rw [tap_one X Y t1 (by omega) (by omega) (by omega) u1 u2]; exact ⟨rfl, rfl⟩
include hZ h2 h3 hb3 hb4 hb5
theorem taps_two : ∃ q1 q2 q3 q4, FeedC (newR 2 1) ⟨1, 1, 0, 0, 0, 0⟩ q1 ∧ FeedC q1.1 ⟨3, 1, X, Y, t1, 0⟩ q2 ∧ FeedC q2.1 ⟨1, 1, Z, Y, t2, 0⟩ q3 ∧ FeedC q3.1 ⟨3, 1, Z, Y, t3, 0⟩ q4 ∧
    WinC q4.1 (if b1 && b2 && b3 && b4 && b5 then [⟨2, 1, 1, Z, Y, 0, 0, 1000, 0, 0⟩] else []) ∧ q2.2.1 = (if b1 && b2 then 3 else 2) ∧ q3.2.1 = (if b1 && b2 then (if b3 && b4 then 0 else 2) else 0) ∧
    q4.2.1 = (if b1 && b2 && b3 && b4 then (if b5 then 1 else 2) else 0) := by
  have s0 : Sound (newR 2 1) := newR_sound rfl rfl
  have s1 := s0.feed ⟨1, 1, 0, 0, 0, 0⟩
  have s2 := s1.feed ⟨3, 1, X, Y, t1, 0⟩
  have s3 := s2.feed ⟨1, 1, Z, Y, t2, 0⟩
  have s4 := s3.feed ⟨3, 1, Z, Y, t3, 0⟩
  have e1 := tap_dn 2 (.inr rfl)
  have hw := winC s4
  refine ⟨_, _, _, _, feedC s0 _, feedC s1 _, feedC s2 _, feedC s3 _, ?_⟩
  rw [e1] at hw ⊢
  simp only at hw ⊢
  cases hb : b1 && b2
  · rw [tap_up1 X Y t1 hX hY h1 b1 b2 hb1 hb2 2 (.inr rfl) hb] at hw ⊢
    simp only [feed_over] at hw ⊢
    exact ⟨hw, rfl, rfl, rfl⟩
  · obtain ⟨u1, u2⟩ := tap_up2 X Y t1 hX hY h1 b1 b2 hb1 hb2 hb
    rw [tap_two X Y t1 (by omega) (by omega) (by omega) u1 u2] at hw ⊢
    simp only at hw ⊢
    have hd : 8 < dist ⟨Z, Y, t2⟩ ⟨X, Y, t1⟩ ↔ ¬ mx (Z - X) (X - Z) ≤ 8 := by
      simp only [dist, mx]; repeat (split)
      all_goals omega
    cases hc : b3 && b4
    · have hbad : 300 < t2 - t1 ∨ 8 < dist ⟨Z, Y, t2⟩ ⟨X, Y, t1⟩ := by
        rw [hd]
        rw [← hb3, ← hb4] at hc
        simp at hc
        omega
      rw [tap_dn_bad Z Y t2 (by omega) (by omega) (by omega) ⟨X, Y, t1⟩ hbad] at hw ⊢
      simp only [feed_over] at hw ⊢
      have hf : (true && b3 && b4 && b5) = false := by rw [Bool.true_and, hc]; rfl
      have hf2 : (true && b3 && b4) = false := by rw [Bool.true_and, hc]
      rw [hf, hf2]
      exact ⟨hw, rfl, rfl, rfl⟩
    · have hgood : ¬ 300 < t2 - t1 ∧ ¬ 8 < dist ⟨Z, Y, t2⟩ ⟨X, Y, t1⟩ := by
        rw [hd]
        rw [← hb3, ← hb4] at hc
        simp at hc
        omega
      rw [tap_dn_good Z Y t2 (by omega) (by omega) (by omega) ⟨X, Y, t1⟩ hgood.1 hgood.2] at hw ⊢
      have hf : (true && b3 && b4 && b5) = b5 := by rw [Bool.true_and, hc]; rfl
      have hf2 : (true && b3 && b4) = true := by rw [Bool.true_and, hc]
      rw [hf, hf2]
      simp only at hw ⊢
      cases b5
      · have h5 : 300 < t3 - t2 := by simp at hb5; omega
        rw [tap_up_bad Z Y t3 (by omega) (by omega) (by omega) ⟨X, Y, t1⟩ t2 h5] at hw ⊢
        exact ⟨hw, rfl, rfl, rfl⟩
      · have h5 : ¬ 300 < t3 - t2 := by simp at hb5; omega
        rw [tap_up_good Z Y t3 (by omega) (by omega) (by omega) ⟨X, Y, t1⟩ t2 h5] at hw ⊢
        exact ⟨hw, rfl, rfl, rfl⟩
end
end Go.Proofs.Ytendgmnbnnkpnaa.G
