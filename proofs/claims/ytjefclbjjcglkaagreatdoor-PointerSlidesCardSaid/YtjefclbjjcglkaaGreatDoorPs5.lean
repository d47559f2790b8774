/- Runs of PointerSlides. -/
import Derived.Test.YtjefclbjjcglkaaGreatDoorPs1
set_option maxRecDepth 100000
set_option linter.unusedVariables false
namespace Go.Proofs.YtjefclbjjcglkaaGreatDoor
open Go Go.Ev Go.RowKit
theorem sn1_p9_n : slideK (-1) 1 8 1 9 9 (-128) 128 = some true := by kernel_rfl
theorem sn9_p0_n : slideK (-1) 9 20 1 0 9 (-128) 128 = some true := by kernel_rfl
theorem sn1_p10_n : slideK (-1) 1 8 1 10 127 (-128) 128 = some true := by kernel_rfl
theorem sn9_p10_t : slideK (-1) 9 20 1 10 127 0 128 = some true := by kernel_rfl
theorem sn9_p10_f : slideK (-1) 9 20 1 10 127 (-128) (-1) = some true := by kernel_rfl
theorem sn21_p0_n : slideK (-1) 21 60 1 0 9 (-128) 128 = some true := by kernel_rfl
theorem sn21_p10_t : slideK (-1) 21 60 1 10 127 0 128 = some true := by kernel_rfl
theorem sn21_p10_f : slideK (-1) 21 60 1 10 127 (-128) (-1) = some true := by kernel_rfl
end Go.Proofs.YtjefclbjjcglkaaGreatDoor
