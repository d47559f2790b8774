/- The law's runs, by the rest of the division of n by 7. -/
import Derived.Test.YtjefclbjjcglkaaGreatDoorPf2
set_option maxRecDepth 100000
set_option linter.unusedVariables false
namespace Go.Proofs.YtjefclbjjcglkaaGreatDoor
open Go Go.Ev
noncomputable def lawK (k : Int) : Option Bool := callK (evEw sm2) 3000 5 [.c (.y .u8 k [(7, 0, 36)])] evH fun v _ => withC v fun v => withB v fun b => some b
theorem full0 : lawK 0 = some true := by kernel_rfl
theorem full1 : lawK 1 = some true := by kernel_rfl
theorem full2 : lawK 2 = some true := by kernel_rfl
end Go.Proofs.YtjefclbjjcglkaaGreatDoor
