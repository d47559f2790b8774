/- Runs of PointerModal. -/
import Derived.Test.YtjefclbjjcglkaaGreatDoorPm1
set_option maxRecDepth 100000
set_option linter.unusedVariables false
namespace Go.Proofs.YtjefclbjjcglkaaGreatDoor
open Go Go.Ev Go.RowKit
theorem m0_0_f : modalK 0 49 0 49 false = some true := by kernel_rfl
theorem m0_50_f : modalK 0 49 50 99 false = some true := by kernel_rfl
theorem m0_100_f : modalK 0 49 100 255 false = some true := by kernel_rfl
theorem m50_0_f : modalK 50 59 0 99 false = some true := by kernel_rfl
theorem m50_100_f : modalK 50 59 100 255 false = some true := by kernel_rfl
theorem m60_0_f : modalK 60 64 0 59 false = some true := by kernel_rfl
theorem m60_60_f : modalK 60 64 60 89 false = some true := by kernel_rfl
end Go.Proofs.YtjefclbjjcglkaaGreatDoor
