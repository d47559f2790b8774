/- Runs of PointerModal. -/
import Derived.Test.YtjefclbjjcglkaaGreatDoorPm1
set_option maxRecDepth 100000
set_option linter.unusedVariables false
namespace Go.Proofs.YtjefclbjjcglkaaGreatDoor
open Go Go.Ev Go.RowKit
theorem m65_100_f : modalK 65 74 100 255 false = some true := by kernel_rfl
theorem m75_0_f : modalK 75 89 0 59 false = some true := by kernel_rfl
theorem m75_60_f : modalK 75 89 60 89 false = some true := by kernel_rfl
theorem m75_90_f : modalK 75 89 90 99 false = some true := by kernel_rfl
theorem m75_100_f : modalK 75 89 100 255 false = some true := by kernel_rfl
theorem m90_0_f : modalK 90 99 0 99 false = some true := by kernel_rfl
theorem m90_100_f : modalK 90 99 100 255 false = some true := by kernel_rfl
end Go.Proofs.YtjefclbjjcglkaaGreatDoor
