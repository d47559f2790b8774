/- Runs of PointerModal. -/
import Derived.Test.YtjefclbjjcglkaaGreatDoorPm1
set_option maxRecDepth 100000
set_option linter.unusedVariables false
namespace Go.Proofs.YtjefclbjjcglkaaGreatDoor
open Go Go.Ev Go.RowKit
theorem m100_0_f : modalK 100 255 0 255 false = some true := by kernel_rfl
theorem m0_0_t : modalK 0 49 0 49 true = some true := by kernel_rfl
theorem m0_50_t : modalK 0 49 50 99 true = some true := by kernel_rfl
theorem m0_100_t : modalK 0 49 100 255 true = some true := by kernel_rfl
theorem m50_0_t : modalK 50 59 0 99 true = some true := by kernel_rfl
theorem m60_0_t : modalK 60 89 0 59 true = some true := by kernel_rfl
theorem m60_60_t : modalK 60 89 60 89 true = some true := by kernel_rfl
end Go.Proofs.YtjefclbjjcglkaaGreatDoor
