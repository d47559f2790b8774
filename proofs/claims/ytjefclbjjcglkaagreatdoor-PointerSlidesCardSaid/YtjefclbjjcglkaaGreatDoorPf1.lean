/- What hit.Test, focus.Scope and awake hand back in the law's scene. -/
import Derived.Test.YtjefclbjjcglkaaGreatDoorEvF
set_option maxRecDepth 100000
set_option linter.unusedVariables false
namespace Go.Proofs.YtjefclbjjcglkaaGreatDoor
open Go Go.Ev
noncomputable section
def scT : AV := .agg [.i .i64 1, .i .i64 4, .sl 36 0 3 3 7 false]
def scS : AV := .c (.sl 55 0 3 3 23 false)
def scB : AV := .c (.sl 57 0 3 3 7 false)
def sty (id : Int) : List CV := [.i .i64 id, .i .i64 0, .i .i64 (-1), .i .i64 16, .i .i64 0, .i .i64 0, .i .i64 1, .i .i64 3, .i .i64 0, .i .i64 0, .i .i64 0, .i .i64 0, .i .i64 1, .i .i64 (-1), .i .i64 0, .i .i64 1048576, .i .i64 0, .i .i64 1048576, .i .i64 0, .i .i64 0, .i .i64 0, .i .i64 0, .i .i64 0]
def scFoot : List (Nat × List CV) := [(31, [.i .i64 2, .i .i64 3]),
  (36, [.i .i64 1, .i .i64 0, .i .i64 1, .s ⟨#[]⟩, .nils, .nils, .sl 31 0 2 2 1 false, .i .i64 2, .i .i64 1, .i .i64 3, .s ⟨#[]⟩, .nils, .nils, .nils, .i .i64 3, .i .i64 1, .i .i64 13, .s ⟨#[]⟩, .nils, .nils, .nils]),
  (57, [.i .i64 1, .i .i64 0, .i .i64 0, .i .i64 100, .i .i64 20, .i .i64 0, .nils, .i .i64 2, .i .i64 0, .i .i64 0, .i .i64 40, .i .i64 20, .i .i64 0, .nils, .i .i64 3, .i .i64 40, .i .i64 0, .i .i64 40, .i .i64 20, .i .i64 0, .nils]),
  (55, [.i .i64 1, .i .i64 0, .i .i64 (-1), .i .i64 16, .i .i64 0, .i .i64 0, .i .i64 1, .i .i64 3, .i .i64 0, .i .i64 0, .i .i64 0, .i .i64 0, .i .i64 1, .i .i64 (-1), .i .i64 0, .i .i64 1048576, .i .i64 0, .i .i64 1048576, .i .i64 0, .i .i64 0, .i .i64 0, .i .i64 0, .i .i64 0, .i .i64 2, .i .i64 0, .i .i64 (-1), .i .i64 16, .i .i64 0, .i .i64 0, .i .i64 1, .i .i64 3, .i .i64 0, .i .i64 0, .i .i64 0, .i .i64 0, .i .i64 1, .i .i64 (-1), .i .i64 0, .i .i64 1048576, .i .i64 0, .i .i64 1048576, .i .i64 0, .i .i64 0, .i .i64 0, .i .i64 0, .i .i64 0, .i .i64 3, .i .i64 0, .i .i64 (-1), .i .i64 16, .i .i64 0, .i .i64 0, .i .i64 1, .i .i64 3, .i .i64 0, .i .i64 0, .i .i64 0, .i .i64 0, .i .i64 1, .i .i64 (-1), .i .i64 0, .i .i64 1048576, .i .i64 0, .i .i64 1048576, .i .i64 0, .i .i64 0, .i .i64 0, .i .i64 0, .i .i64 0]),
  (0, gl0)]
def smT (x y : Int) (r : List CV) (n : Nat) : Sm := ⟨[scT, scS, scB, .c .nils, .agg [.i .i64 x, .i .i64 y]], scFoot, .row r n n 1⟩
def smS : Sm := ⟨[scT, scS], scFoot, .val (.i .i64 1)⟩
end
theorem ev_ok0 : EOk Tryz.prog evE := ev_ok .e fun f l s h => by cases f <;> cases h
theorem runT1 : runSm evE 3000 100 22 (smT 60 10 [.i .i64 1, .i .i64 3] 2) = some true := by kernel_rfl
theorem runT2 : runSm evE 3000 100 22 (smT 5 5 [.i .i64 1, .i .i64 2] 2) = some true := by kernel_rfl
theorem runS1 : runSm evE 3000 100 24 smS = some true := by kernel_rfl
end Go.Proofs.YtjefclbjjcglkaaGreatDoor
