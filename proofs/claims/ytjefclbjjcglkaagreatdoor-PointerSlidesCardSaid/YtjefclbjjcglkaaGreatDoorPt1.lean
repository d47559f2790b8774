/- What hit.Test hands back in the scene, by signs and bounds of the point. -/
import Derived.Test.YtjefclbjjcglkaaGreatDoorPf2
set_option maxRecDepth 100000
set_option linter.unusedVariables false
namespace Go.Proofs.YtjefclbjjcglkaaGreatDoor
open Go Go.Ev
/-- the point (60 + sx v0, 10 + sy v1) -/
noncomputable def smY (sx xl xh sy yl yh : Int) (r : SmR) : Sm := ⟨[scT, scS, scB, .c .nils, .agg [.y .i64 60 [(sx, xl, xh), (0, 0, 128), (0, -128, 128)], .y .i64 10 [(0, 0, 128), (sy, yl, yh), (0, -128, 128)]]], scFoot, r⟩
noncomputable def q0 : Sm := smY 1 0 19 1 0 9 (.row [.i .i64 1, .i .i64 3] 2 2 1)
noncomputable def q1 : Sm := smY 1 0 19 1 10 127 (.val .nils)
noncomputable def q2 : Sm := smY 1 0 19 (-1) 1 10 (.row [.i .i64 1, .i .i64 3] 2 2 1)
noncomputable def q3 : Sm := smY 1 0 19 (-1) 11 128 (.val .nils)
noncomputable def q4 : Sm := smY 1 20 39 1 0 9 (.row [.i .i64 1] 1 1 1)
noncomputable def q5 : Sm := smY 1 20 39 1 10 127 (.val .nils)
noncomputable def q6 : Sm := smY 1 20 39 (-1) 1 10 (.row [.i .i64 1] 1 1 1)
noncomputable def q7 : Sm := smY 1 20 39 (-1) 11 128 (.val .nils)
noncomputable def q8 : Sm := smY 1 40 127 1 0 128 (.val .nils)
noncomputable def q9 : Sm := smY 1 40 127 (-1) 0 128 (.val .nils)
noncomputable def q10 : Sm := smY (-1) 1 20 1 0 9 (.row [.i .i64 1, .i .i64 3] 2 2 1)
noncomputable def q11 : Sm := smY (-1) 1 20 1 10 127 (.val .nils)
noncomputable def q12 : Sm := smY (-1) 1 20 (-1) 1 10 (.row [.i .i64 1, .i .i64 3] 2 2 1)
noncomputable def q13 : Sm := smY (-1) 1 20 (-1) 11 128 (.val .nils)
noncomputable def q14 : Sm := smY (-1) 21 60 1 0 9 (.row [.i .i64 1, .i .i64 2] 2 2 1)
noncomputable def q15 : Sm := smY (-1) 21 60 1 10 127 (.val .nils)
noncomputable def q16 : Sm := smY (-1) 21 60 (-1) 1 10 (.row [.i .i64 1, .i .i64 2] 2 2 1)
noncomputable def q17 : Sm := smY (-1) 21 60 (-1) 11 128 (.val .nils)
noncomputable def q18 : Sm := smY (-1) 61 128 1 0 128 (.val .nils)
noncomputable def q19 : Sm := smY (-1) 61 128 (-1) 0 128 (.val .nils)
theorem run0 : runSm evE 3000 100 22 q0 = some true := by kernel_rfl
theorem run1 : runSm evE 3000 100 22 q1 = some true := by kernel_rfl
theorem run2 : runSm evE 3000 100 22 q2 = some true := by kernel_rfl
theorem run3 : runSm evE 3000 100 22 q3 = some true := by kernel_rfl
theorem run4 : runSm evE 3000 100 22 q4 = some true := by kernel_rfl
theorem run5 : runSm evE 3000 100 22 q5 = some true := by kernel_rfl
theorem run6 : runSm evE 3000 100 22 q6 = some true := by kernel_rfl
theorem run7 : runSm evE 3000 100 22 q7 = some true := by kernel_rfl
theorem run8 : runSm evE 3000 100 22 q8 = some true := by kernel_rfl
theorem run9 : runSm evE 3000 100 22 q9 = some true := by kernel_rfl
end Go.Proofs.YtjefclbjjcglkaaGreatDoor
