/- Runs of PointerSlides. -/
import Derived.Test.YtjefclbjjcglkaaGreatDoorPs1
set_option maxRecDepth 100000
set_option linter.unusedVariables false
namespace Go.Proofs.YtjefclbjjcglkaaGreatDoor
open Go Go.Ev Go.RowKit
theorem sp9_n11_t : slideK 1 9 19 (-1) 11 128 0 128 = some true := by kernel_rfl
theorem sp9_n11_f : slideK 1 9 19 (-1) 11 128 (-128) (-1) = some true := by kernel_rfl
theorem sp20_n1_n : slideK 1 20 39 (-1) 1 10 (-128) 128 = some true := by kernel_rfl
theorem sp20_n11_t : slideK 1 20 39 (-1) 11 128 0 128 = some true := by kernel_rfl
theorem sp20_n11_f : slideK 1 20 39 (-1) 11 128 (-128) (-1) = some true := by kernel_rfl
theorem sp40_n1_t : slideK 1 40 127 (-1) 1 128 0 128 = some true := by kernel_rfl
theorem sp40_n9_f : slideK 1 40 127 (-1) 9 128 (-128) (-1) = some true := by kernel_rfl
theorem sn1_p0_n : slideK (-1) 1 8 1 0 8 (-128) 128 = some true := by kernel_rfl
end Go.Proofs.YtjefclbjjcglkaaGreatDoor
