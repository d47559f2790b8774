/- GesturePinches: the cases together. -/
import Derived.Test.YtendgmnbnnkpnaaD1
import Derived.Test.YtendgmnbnnkpnaaD2
import Derived.Test.YtendgmnbnnkpnaaD3
import Derived.Test.YtendgmnbnnkpnaaD4
import Derived.Test.YtendgmnbnnkpnaaD5
import Derived.WalkKit
import Derived.WalkSpells
import Derived.WalkLawsBesides
import Derived.Deep.QuietTactic
import Derived.BigQuiet
import Derived.BigRegion
import Derived.Lib.Hide
import Derived.Deep.RegionWith
set_option linter.unusedSimpArgs false
set_option linter.unusedVariables false
namespace Go.Proofs.Ytendgmnbnnkpnaa.G
open Go.RowKit
theorem pinches_law (a b s : Int) (ha : 0 ≤ a ∧ a ≤ 255) (hb : 0 ≤ b ∧ b ≤ 255) (hs : -128 ≤ s ∧ s ≤ 127) (w : World) :
    Calls Try.prog 8 #[.int .u8 a, .int .u8 b, .int .i8 s] w fun e w' => e = .returned (.bool true) ∧ Ext w w' := by
  obtain ⟨A, eA⟩ : ∃ A, mx a 1 = A := ⟨_, rfl⟩
  obtain ⟨D, eD⟩ : ∃ D, mx (b - s) (s - b) = D := ⟨_, rfl⟩
  have hA : 1 ≤ A ∧ A ≤ 255 := by rw [← eA]; unfold mx; split <;> omega
  have hD : 0 ≤ D ∧ D ≤ 1000 := by rw [← eD]; unfold mx; split <;> omega
  have h2 : decide (mx (A - b) (b - A) ≤ 8) = !decide (8 < mx (A - b) (b - A)) := by
    rw [Bool.eq_iff_iff]; simp
  cases B1 : decide (8 < mx (A - b) (b - A))
  · rw [B1] at h2
    cases B3 : decide (mx (s + A - b) (b - s - A) ≤ 8)
    · exact pin_2 a b s A D ha.1 ha.2 hb.1 hb.2 hs.1 hs.2 eA eD hA.1 hA.2 hD.1 hD.2 B1 h2 B3 w
    · cases B4 : decide (8 < D - A) <;> cases B5 : decide (8 < A - D)
      · exact pin_3 a b s A D ha.1 ha.2 hb.1 hb.2 hs.1 hs.2 eA eD hA.1 hA.2 hD.1 hD.2 B1 h2 B3 B4 B5 w
      · exact pin_5 a b s A D ha.1 ha.2 hb.1 hb.2 hs.1 hs.2 eA eD hA.1 hA.2 hD.1 hD.2 B1 h2 B3 B4 B5 w
      · exact pin_4 a b s A D ha.1 ha.2 hb.1 hb.2 hs.1 hs.2 eA eD hA.1 hA.2 hD.1 hD.2 B1 h2 B3 B4 B5 w
      · simp at B4 B5; omega
  · rw [B1] at h2
    exact pin_1 a b s A D ha.1 ha.2 hb.1 hb.2 hs.1 hs.2 eA eD hA.1 hA.2 hD.1 hD.2 B1 h2 w
end Go.Proofs.Ytendgmnbnnkpnaa.G
