/- Runs of PointerSlides. -/
import Derived.Test.YtjefclbjjcglkaaGreatDoorPs1
set_option maxRecDepth 100000
set_option linter.unusedVariables false
namespace Go.Proofs.YtjefclbjjcglkaaGreatDoor
open Go Go.Ev Go.RowKit
theorem sn9_n11_f : slideK (-1) 9 20 (-1) 11 128 (-128) (-1) = some true := by kernel_rfl
theorem sn21_n1_n : slideK (-1) 21 60 (-1) 1 10 (-128) 128 = some true := by kernel_rfl
theorem sn21_n11_t : slideK (-1) 21 60 (-1) 11 128 0 128 = some true := by kernel_rfl
theorem sn21_n11_f : slideK (-1) 21 60 (-1) 11 128 (-128) (-1) = some true := by kernel_rfl
theorem sn61_n1_t : slideK (-1) 61 128 (-1) 1 128 0 128 = some true := by kernel_rfl
theorem sn61_n9_f : slideK (-1) 61 128 (-1) 9 128 (-128) (-1) = some true := by kernel_rfl
end Go.Proofs.YtjefclbjjcglkaaGreatDoor
