/- Runs of PointerSlides. -/
import Derived.Test.YtjefclbjjcglkaaGreatDoorPs1
set_option maxRecDepth 100000
set_option linter.unusedVariables false
namespace Go.Proofs.YtjefclbjjcglkaaGreatDoor
open Go Go.Ev Go.RowKit
theorem sp0_p0_n : slideK 1 0 8 1 0 8 (-128) 128 = some true := by kernel_rfl
theorem sp0_p9_n : slideK 1 0 8 1 9 9 (-128) 128 = some true := by kernel_rfl
theorem sp9_p0_n : slideK 1 9 19 1 0 9 (-128) 128 = some true := by kernel_rfl
theorem sp0_p10_n : slideK 1 0 8 1 10 127 (-128) 128 = some true := by kernel_rfl
theorem sp9_p10_t : slideK 1 9 19 1 10 127 0 128 = some true := by kernel_rfl
theorem sp9_p10_f : slideK 1 9 19 1 10 127 (-128) (-1) = some true := by kernel_rfl
theorem sp20_p0_n : slideK 1 20 39 1 0 9 (-128) 128 = some true := by kernel_rfl
theorem sp20_p10_t : slideK 1 20 39 1 10 127 0 128 = some true := by kernel_rfl
end Go.Proofs.YtjefclbjjcglkaaGreatDoor
