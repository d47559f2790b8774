/- Runs of PointerSlides. -/
import Derived.Test.YtjefclbjjcglkaaGreatDoorPs1
set_option maxRecDepth 100000
set_option linter.unusedVariables false
namespace Go.Proofs.YtjefclbjjcglkaaGreatDoor
open Go Go.Ev Go.RowKit
theorem sn9_n1_t : slideK (-1) 9 20 (-1) 1 10 0 128 = some true := by kernel_rfl
theorem sn9_n9_f : slideK (-1) 9 20 (-1) 9 10 (-128) (-1) = some true := by kernel_rfl
theorem sn1_n11_n : slideK (-1) 1 8 (-1) 11 128 (-128) 128 = some true := by kernel_rfl
theorem sn9_n11_t : slideK (-1) 9 20 (-1) 11 128 0 128 = some true := by kernel_rfl
end Go.Proofs.YtjefclbjjcglkaaGreatDoor
