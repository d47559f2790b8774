/- .. the others. -/
import Derived.Test.YtjefclbjjcglkaaGreatDoorPt1
set_option maxRecDepth 100000
set_option linter.unusedVariables false
namespace Go.Proofs.YtjefclbjjcglkaaGreatDoor
open Go Go.Ev
theorem run10 : runSm evE 3000 100 22 q10 = some true := by kernel_rfl
theorem run11 : runSm evE 3000 100 22 q11 = some true := by kernel_rfl
theorem run12 : runSm evE 3000 100 22 q12 = some true := by kernel_rfl
theorem run13 : runSm evE 3000 100 22 q13 = some true := by kernel_rfl
theorem run14 : runSm evE 3000 100 22 q14 = some true := by kernel_rfl
theorem run15 : runSm evE 3000 100 22 q15 = some true := by kernel_rfl
theorem run16 : runSm evE 3000 100 22 q16 = some true := by kernel_rfl
theorem run17 : runSm evE 3000 100 22 q17 = some true := by kernel_rfl
theorem run18 : runSm evE 3000 100 22 q18 = some true := by kernel_rfl
theorem run19 : runSm evE 3000 100 22 q19 = some true := by kernel_rfl
end Go.Proofs.YtjefclbjjcglkaaGreatDoor
