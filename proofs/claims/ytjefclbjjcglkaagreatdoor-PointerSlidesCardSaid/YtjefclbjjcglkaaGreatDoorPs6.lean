/- Runs of PointerSlides. -/
import Derived.Test.YtjefclbjjcglkaaGreatDoorPs1
set_option maxRecDepth 100000
set_option linter.unusedVariables false
namespace Go.Proofs.YtjefclbjjcglkaaGreatDoor
open Go Go.Ev Go.RowKit
theorem sn61_p0_t : slideK (-1) 61 128 1 0 127 0 128 = some true := by kernel_rfl
theorem sn61_p9_f : slideK (-1) 61 128 1 9 127 (-128) (-1) = some true := by kernel_rfl
theorem sn1_n1_n : slideK (-1) 1 8 (-1) 1 8 (-128) 128 = some true := by kernel_rfl
theorem sn1_n9_n : slideK (-1) 1 8 (-1) 9 10 (-128) 128 = some true := by kernel_rfl
theorem sn9_n1_t : slideK (-1) 9 20 (-1) 1 10 0 128 = some true := by kernel_rfl
theorem sn9_n9_f : slideK (-1) 9 20 (-1) 9 10 (-128) (-1) = some true := by kernel_rfl
theorem sn1_n11_n : slideK (-1) 1 8 (-1) 11 128 (-128) 128 = some true := by kernel_rfl
theorem sn9_n11_t : slideK (-1) 9 20 (-1) 11 128 0 128 = some true := by kernel_rfl
end Go.Proofs.YtjefclbjjcglkaaGreatDoor
