/- GesturePinches: what the calls are. -/
import Derived.Test.YtendgmnbnnkpnaaA0
import Derived.Test.YtendgmnbnnkpnaaR1
import Derived.WalkKit
import Derived.WalkSpells
import Derived.WalkLawsBesides
import Derived.Deep.QuietTactic
import Derived.BigQuiet
import Derived.BigRegion
import Derived.Lib.Hide
import Derived.Deep.RegionWith
set_option linter.unusedSimpArgs false
set_option linter.unusedVariables false
set_option linter.unusedSectionVars false
namespace Go.Proofs.Ytendgmnbnnkpnaa.G
open Go.RowKit
section
variable (a b s A D : Int) (ha : 0 ≤ a ∧ a ≤ 255) (hb : 0 ≤ b ∧ b ≤ 255) (hs : -128 ≤ s ∧ s ≤ 127) (eA : mx a 1 = A) (eD : mx (b - s) (s - b) = D)
include ha hb eA
theorem size_ba : size (b - mx a 1) = mx (A - b) (b - A) := by
  rw [eA]; simp only [size, mx]; repeat (split)
  all_goals omega
theorem pin_start : ∃ q1 q2, FeedC (newR 7 1) ⟨1, 1, 0, 0, 0, 0⟩ q1 ∧ FeedC q1.1 ⟨1, 2, a, 0, 1, 0⟩ q2 ∧ FeedC q2.1 ⟨2, 2, b, 0, 2, 0⟩ (feed (pinR a) ⟨2, 2, b, 0, 2, 0⟩) ∧ Sound (feed (pinR a) ⟨2, 2, b, 0, 2, 0⟩).1 := by
  have s0 : Sound (newR 7 1) := newR_sound rfl rfl
  have s1 := s0.feed ⟨1, 1, 0, 0, 0, 0⟩
  have s2 := s1.feed ⟨1, 2, a, 0, 1, 0⟩
  have s3 := s2.feed ⟨2, 2, b, 0, 2, 0⟩
  refine ⟨_, _, feedC s0 _, feedC s1 _, ?_⟩
  have h3 := feedC s2 ⟨2, 2, b, 0, 2, 0⟩
  have e2 : (feed (feed (newR 7 1) ⟨1, 1, 0, 0, 0, 0⟩).1 ⟨1, 2, a, 0, 1, 0⟩).1 = pinR a := by rw [pin_dn]; simp only; rw [pin_dn2 a ha]
  rw [e2] at h3 s3 ⊢
  exact ⟨h3, s3⟩
theorem pin_sure (B1 : decide (8 < mx (A - b) (b - A)) = true) : ∃ q1 q2 q3, FeedC (newR 7 1) ⟨1, 1, 0, 0, 0, 0⟩ q1 ∧ FeedC q1.1 ⟨1, 2, a, 0, 1, 0⟩ q2 ∧ FeedC q2.1 ⟨2, 2, b, 0, 2, 0⟩ q3 ∧ q3.2.1 = 1 ∧
    WinC q3.1 [⟨7, 1, 2, fl a 2, 0, 0, 0, 1000, 0, 0⟩, ⟨7, 1, 3, fl b 2, 0, 0, 0, fl (1000 * b) A, 0, 0⟩] := by
  obtain ⟨q1, q2, f1, f2, f3, s3⟩ := pin_start a b A ha hb eA
  have e3 := pin_mv a b ha hb
  rw [size_ba a b A ha hb eA, if_pos (by simpa using B1)] at e3
  rw [e3] at f3 s3
  have hw := winC s3
  rw [show (win { pinR2 a b with State := 2 }).2 = _ from pin_win a b ha hb, eA] at hw
  exact ⟨q1, q2, _, f1, f2, f3, rfl, hw⟩
theorem pin_none (B1 : decide (8 < mx (A - b) (b - A)) = false) : ∃ q1 q2 q3, FeedC (newR 7 1) ⟨1, 1, 0, 0, 0, 0⟩ q1 ∧ FeedC q1.1 ⟨1, 2, a, 0, 1, 0⟩ q2 ∧ FeedC q2.1 ⟨2, 2, b, 0, 2, 0⟩ q3 ∧ q3.2.1 = 0 := by
  obtain ⟨q1, q2, f1, f2, f3, s3⟩ := pin_start a b A ha hb eA
  have e3 := pin_mv a b ha hb
  rw [size_ba a b A ha hb eA, if_neg (by simpa using B1)] at e3
  rw [e3] at f3 s3
  exact ⟨q1, q2, _, f1, f2, f3, rfl⟩
include hs eD
theorem pin_both (B1 : decide (8 < mx (A - b) (b - A)) = false) (u1 u2 : Bool) (B4 : decide (8 < D - A) = u1) (B5 : decide (8 < A - D) = u2) :
    ∃ q1 q2 q3 q4, FeedC (newR 7 1) ⟨1, 1, 0, 0, 0, 0⟩ q1 ∧ FeedC q1.1 ⟨1, 2, a, 0, 1, 0⟩ q2 ∧ FeedC q2.1 ⟨2, 2, b, 0, 2, 0⟩ q3 ∧ FeedC q3.1 ⟨2, 1, s, 0, 3, 0⟩ q4 ∧ q3.2.1 = 0 ∧ q4.2.1 = if u1 || u2 then 1 else 0 := by
  obtain ⟨q1, q2, f1, f2, f3, s3⟩ := pin_start a b A ha hb eA
  have e3 := pin_mv a b ha hb
  rw [size_ba a b A ha hb eA, if_neg (by simpa using B1)] at e3
  rw [e3] at f3 s3
  have e4 := pin_mv2 a b s ha hs
  have f4 := feedC s3 ⟨2, 1, s, 0, 3, 0⟩
  refine ⟨q1, q2, _, _, f1, f2, f3, f4, rfl, ?_⟩
  show (feed (pinR2 a b) ⟨2, 1, s, 0, 3, 0⟩).2.1 = _
  rw [e4]
  have hd : size (s - b) = D := by
    rw [← eD]; simp only [size, mx]; repeat (split)
    all_goals omega
  rw [hd, eA, ← B4, ← B5]
  have : 8 < size (D - A) ↔ (8 < D - A ∨ 8 < A - D) := by
    simp only [size, mx]; repeat (split)
    all_goals omega
  by_cases h : 8 < size (D - A)
  · rw [if_pos h]
    rw [if_pos (by simpa using this.1 h)]
  · rw [if_neg h]
    rw [if_neg (by simpa using fun hh => h (this.2 hh))]
end
end Go.Proofs.Ytendgmnbnnkpnaa.G
