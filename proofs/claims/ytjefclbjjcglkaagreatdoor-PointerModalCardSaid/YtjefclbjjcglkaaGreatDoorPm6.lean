/- Runs of PointerModal. -/
import Derived.Test.YtjefclbjjcglkaaGreatDoorPm1
set_option maxRecDepth 100000
set_option linter.unusedVariables false
namespace Go.Proofs.YtjefclbjjcglkaaGreatDoor
open Go Go.Ev Go.RowKit
theorem m60_90_t : modalK 60 89 90 99 true = some true := by kernel_rfl
theorem m90_0_t : modalK 90 99 0 99 true = some true := by kernel_rfl
theorem m50_100_t : modalK 50 59 100 255 true = some true := by kernel_rfl
theorem m60_100_t : modalK 60 89 100 255 true = some true := by kernel_rfl
theorem m90_100_t : modalK 90 99 100 255 true = some true := by kernel_rfl
theorem m100_0_t : modalK 100 255 0 255 true = some true := by kernel_rfl
end Go.Proofs.YtjefclbjjcglkaaGreatDoor
