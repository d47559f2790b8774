/- Runs of PointerModal. -/
import Derived.Test.YtjefclbjjcglkaaGreatDoorPm1
set_option maxRecDepth 100000
set_option linter.unusedVariables false
namespace Go.Proofs.YtjefclbjjcglkaaGreatDoor
open Go Go.Ev Go.RowKit
theorem m60_90_f : modalK 60 64 90 99 false = some true := by kernel_rfl
theorem m60_100_f : modalK 60 64 100 255 false = some true := by kernel_rfl
theorem m65_0_f : modalK 65 74 0 59 false = some true := by kernel_rfl
theorem m65_60_f : modalK 65 74 60 64 false = some true := by kernel_rfl
theorem m65_65_f : modalK 65 74 65 74 false = some true := by kernel_rfl
theorem m65_75_f : modalK 65 74 75 89 false = some true := by kernel_rfl
theorem m65_90_f : modalK 65 74 90 99 false = some true := by kernel_rfl
end Go.Proofs.YtjefclbjjcglkaaGreatDoor
