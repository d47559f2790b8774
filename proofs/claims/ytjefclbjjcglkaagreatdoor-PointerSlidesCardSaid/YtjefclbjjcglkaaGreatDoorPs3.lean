/- Runs of PointerSlides. -/
import Derived.Test.YtjefclbjjcglkaaGreatDoorPs1
set_option maxRecDepth 100000
set_option linter.unusedVariables false
namespace Go.Proofs.YtjefclbjjcglkaaGreatDoor
open Go Go.Ev Go.RowKit
theorem sp20_p10_f : slideK 1 20 39 1 10 127 (-128) (-1) = some true := by kernel_rfl
theorem sp40_p0_t : slideK 1 40 127 1 0 127 0 128 = some true := by kernel_rfl
theorem sp40_p9_f : slideK 1 40 127 1 9 127 (-128) (-1) = some true := by kernel_rfl
theorem sp0_n1_n : slideK 1 0 8 (-1) 1 8 (-128) 128 = some true := by kernel_rfl
theorem sp0_n9_n : slideK 1 0 8 (-1) 9 10 (-128) 128 = some true := by kernel_rfl
theorem sp9_n1_t : slideK 1 9 19 (-1) 1 10 0 128 = some true := by kernel_rfl
theorem sp9_n9_f : slideK 1 9 19 (-1) 9 10 (-128) (-1) = some true := by kernel_rfl
theorem sp0_n11_n : slideK 1 0 8 (-1) 11 128 (-128) 128 = some true := by kernel_rfl
end Go.Proofs.YtjefclbjjcglkaaGreatDoor
