/- The law's runs: five, six. -/
import Derived.Test.YtjefclbjjcglkaaGreatDoorPf3
set_option maxRecDepth 100000
set_option linter.unusedVariables false
namespace Go.Proofs.YtjefclbjjcglkaaGreatDoor
open Go Go.Ev
theorem full5 : lawK 5 = some true := by kernel_rfl
theorem full6 : lawK 6 = some true := by kernel_rfl
end Go.Proofs.YtjefclbjjcglkaaGreatDoor
