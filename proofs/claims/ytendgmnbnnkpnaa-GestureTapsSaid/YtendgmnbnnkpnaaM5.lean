/- GestureTaps: the cases together. -/
import Derived.Test.YtendgmnbnnkpnaaC1
import Derived.Test.YtendgmnbnnkpnaaC2
import Derived.Test.YtendgmnbnnkpnaaC3
import Derived.Test.YtendgmnbnnkpnaaC4
import Derived.Test.YtendgmnbnnkpnaaC5
import Derived.Test.YtendgmnbnnkpnaaC6
import Derived.WalkKit
import Derived.WalkSpells
import Derived.WalkLawsBesides
import Derived.Deep.QuietTactic
import Derived.BigQuiet
import Derived.BigRegion
import Derived.Lib.Hide
import Derived.Deep.RegionWith
set_option linter.unusedSimpArgs false
set_option linter.unusedVariables false
namespace Go.Proofs.Ytendgmnbnnkpnaa.G
open Go.RowKit
theorem taps_law (x y m p s z : Int) (hx : -128 ≤ x ∧ x ≤ 127) (hy : -128 ≤ y ∧ y ≤ 127) (hm : 0 ≤ m ∧ m ≤ 65535) (hp : 0 ≤ p ∧ p ≤ 65535) (hs : 0 ≤ s ∧ s ≤ 65535) (hz : -128 ≤ z ∧ z ≤ 127) (w : World) :
    Calls Try.prog 5 #[.int .i8 x, .int .i8 y, .int .u16 m, .int .u16 p, .int .u16 s, .int .i8 z] w fun e w' => e = .returned (.bool true) ∧ Ext w w' := by
  obtain ⟨X, eX⟩ : ∃ X, x.tdiv 8 = X := ⟨_, rfl⟩
  obtain ⟨Y, eY⟩ : ∃ Y, y.tdiv 8 = Y := ⟨_, rfl⟩
  obtain ⟨Z, eZ⟩ : ∃ Z, z.tdiv 8 = Z := ⟨_, rfl⟩
  obtain ⟨t1, e1⟩ : ∃ t, m % 400 = t := ⟨_, rfl⟩
  obtain ⟨t2, e2⟩ : ∃ t, t1 + p % 400 = t := ⟨_, rfl⟩
  obtain ⟨t3, e3⟩ : ∃ t, t2 + s % 400 = t := ⟨_, rfl⟩
  have hX := tdiv8_bd x hx
  have hY := tdiv8_bd y hy
  have hZ := tdiv8_bd z hz
  rw [eX] at hX
  rw [eY] at hY
  rw [eZ] at hZ
  cases B1 : decide (mx (mx (mx X (-X)) Y) (-Y) ≤ 8)
  · exact taps_1 x y m p s z X Y Z t1 t2 t3 _ _ _ _ hx.1 hx.2 hy.1 hy.2 hm.1 hm.2 hp.1 hp.2 hs.1 hs.2 hz.1 hz.2 eX eY eZ e1 e2 e3 hX hY hZ B1 rfl rfl rfl rfl w
  cases B2 : decide (t1 ≤ 300)
  · exact taps_2 x y m p s z X Y Z t1 t2 t3 _ _ _ hx.1 hx.2 hy.1 hy.2 hm.1 hm.2 hp.1 hp.2 hs.1 hs.2 hz.1 hz.2 eX eY eZ e1 e2 e3 hX hY hZ B1 B2 rfl rfl rfl w
  cases B3 : decide (t2 - t1 ≤ 300)
  · exact taps_3 x y m p s z X Y Z t1 t2 t3 _ _ hx.1 hx.2 hy.1 hy.2 hm.1 hm.2 hp.1 hp.2 hs.1 hs.2 hz.1 hz.2 eX eY eZ e1 e2 e3 hX hY hZ B1 B2 B3 rfl rfl w
  cases B4 : decide (mx (Z - X) (X - Z) ≤ 8)
  · exact taps_4 x y m p s z X Y Z t1 t2 t3 _ hx.1 hx.2 hy.1 hy.2 hm.1 hm.2 hp.1 hp.2 hs.1 hs.2 hz.1 hz.2 eX eY eZ e1 e2 e3 hX hY hZ B1 B2 B3 B4 rfl w
  cases B5 : decide (t3 - t2 ≤ 300)
  · exact taps_5 x y m p s z X Y Z t1 t2 t3 hx.1 hx.2 hy.1 hy.2 hm.1 hm.2 hp.1 hp.2 hs.1 hs.2 hz.1 hz.2 eX eY eZ e1 e2 e3 hX hY hZ B1 B2 B3 B4 B5 w
  · exact taps_6 x y m p s z X Y Z t1 t2 t3 hx.1 hx.2 hy.1 hy.2 hm.1 hm.2 hp.1 hp.2 hs.1 hs.2 hz.1 hz.2 eX eY eZ e1 e2 e3 hX hY hZ B1 B2 B3 B4 B5 w
end Go.Proofs.Ytendgmnbnnkpnaa.G
