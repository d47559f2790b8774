/- The law's runs: three, four. -/
import Derived.Test.YtjefclbjjcglkaaGreatDoorPf3
set_option maxRecDepth 100000
set_option linter.unusedVariables false
namespace Go.Proofs.YtjefclbjjcglkaaGreatDoor
open Go Go.Ev
theorem full3 : lawK 3 = some true := by kernel_rfl
theorem full4 : lawK 4 = some true := by kernel_rfl
end Go.Proofs.YtjefclbjjcglkaaGreatDoor
