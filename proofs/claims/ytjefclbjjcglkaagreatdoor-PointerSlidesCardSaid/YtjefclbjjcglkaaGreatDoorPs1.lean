/- PointerSlides: a run, by signs and bounds. -/
import Derived.Test.YtjefclbjjcglkaaGreatDoorPf2
set_option maxRecDepth 100000
set_option linter.unusedVariables false
namespace Go.Proofs.YtjefclbjjcglkaaGreatDoor
open Go Go.Ev
/-- dx = sx · v0, dy = sy · v1, v2 = v0 - v1, pause = v3 -/
noncomputable def slideK (sx xl xh sy yl yh rl rh : Int) : Option Bool := callK (evEw sm2) 3000 4 [.c (.y .i8 0 [(sx, xl, xh), (0, yl, yh), (0, rl, rh)]), .c (.y .i8 0 [(0, xl, xh), (sy, yl, yh), (0, rl, rh)]), .c (.y .u8 0 [(0, xl, xh), (0, yl, yh), (0, rl, rh), (1, 0, 255)])] evH fun v _ => withC v fun v => withB v fun b => some b
end Go.Proofs.YtjefclbjjcglkaaGreatDoor
