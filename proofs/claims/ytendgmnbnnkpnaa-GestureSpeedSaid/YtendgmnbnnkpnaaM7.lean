/- GestureSpeed: the law's walk, over a row of samples. -/
import Derived.Test.YtendgmnbnnkpnaaS1
import Derived.WalkKit
import Derived.WalkSpells
import Derived.WalkLawsBesides
import Derived.Deep.QuietTactic
import Derived.BigQuiet
import Derived.BigRegion
import Derived.Lib.Hide
import Derived.Deep.RegionWith
set_option linter.unusedSimpArgs false
set_option linter.unusedVariables false
namespace Go.Proofs.Ytendgmnbnnkpnaa.G
open Go.RowKit
theorem speed_law (a : Option Addr) (cap : Nat) (l : List Smp) (v n : Int) (hv : -128 ≤ v ∧ v ≤ 127) (hn : 0 ≤ n ∧ n ≤ 255)
    (w : World) (hs : l = [] ∨ ∃ b off, a = some ⟨b, off, none⟩ ∧ SsAt w b off l) :
    Calls Try.prog 7 #[.slice a l.length cap, .int .i8 v, .int .u8 n] w fun e w' => e = .returned (.bool true) ∧ Ext w w' := by
  by_cases h60 : 60 < l.length
  · exact speed_long a cap l.length v n h60 w
  have hl : l.length ≤ 4611686018427387904 := by omega
  refine speed_walk (.slice a l.length cap) l.length v n _ (vel l).1 (vel l).2 ⟨a, cap, rfl⟩ (by omega) hv.1 hv.2 hn.1 hn.2 rfl (by omega) (by omega) w ?_ ?_
  · intro W hW
    rcases hs with rfl | ⟨b, off, rfl, hs⟩
    · exact vel_nil _ _ _
    · by_cases h0 : 0 < l.length
      · exact vel_any cap b off l W h0 hl (hs.ext hW)
      · have : l = [] := by cases l with | nil => rfl | cons x t => simp at h0
        subst this
        exact vel_nil _ _ _
  · intro W hW
    rcases hs with rfl | ⟨b, off, rfl, hs⟩
    · exact r_vel_nil _ _ _
    · by_cases h0 : 0 < l.length
      · exact r_vel_any cap b off l W h0 hl (hs.ext hW)
      · have : l = [] := by cases l with | nil => rfl | cons x t => simp at h0
        subst this
        exact r_vel_nil _ _ _
end Go.Proofs.Ytendgmnbnnkpnaa.G
