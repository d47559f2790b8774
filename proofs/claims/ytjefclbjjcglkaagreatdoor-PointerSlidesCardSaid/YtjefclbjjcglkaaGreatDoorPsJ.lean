/- PointerSlides: whatever the movement and the pause, the law's call returns true. -/
import Derived.Test.YtjefclbjjcglkaaGreatDoorPs2
import Derived.Test.YtjefclbjjcglkaaGreatDoorPs3
import Derived.Test.YtjefclbjjcglkaaGreatDoorPs4
import Derived.Test.YtjefclbjjcglkaaGreatDoorPs5
import Derived.Test.YtjefclbjjcglkaaGreatDoorPs6
import Derived.Test.YtjefclbjjcglkaaGreatDoorPs7
import Derived.Test.YtjefclbjjcglkaaGreatDoorEvG
set_option linter.unusedVariables false
namespace Go.Proofs.YtjefclbjjcglkaaGreatDoor
open Go Go.Ev Go.RowKit
theorem slide_leaf {W : World} (hW : GlobOK W) {dx dy pa sx sy X Y xl xh yl yh rl rh : Int} (hr : slideK sx xl xh sy yl yh rl rh = some true) (p0 : 0 ≤ pa) (p1 : pa ≤ 255) (ex : dx = sx * X) (ey : dy = sy * Y) (h0 : xl ≤ X) (h1 : X ≤ xh) (h2 : yl ≤ Y) (h3 : Y ≤ yh) (h4 : rl ≤ X - Y) (h5 : X - Y ≤ rh) : Calls Tryz.prog 4 #[.int .i8 dx, .int .i8 dy, .int .u8 pa] W fun e W' => e = .returned (.bool true) ∧ Below W.heap.size W W' := by
  refine law_ok (vs := [.int .i8 dx, .int .i8 dy, .int .u8 pa]) ev_ok4 hW (fun i => if i = 0 then X else if i = 1 then Y else if i = 2 then X - Y else pa) hr (.cons ⟨?_, ⟨⟨h0, h1⟩, ⟨h2, h3⟩, ⟨h4, h5⟩, trivial⟩, rfl⟩ (.cons ⟨?_, ⟨⟨h0, h1⟩, ⟨h2, h3⟩, ⟨h4, h5⟩, trivial⟩, rfl⟩ (.cons ⟨?_, ⟨⟨h0, h1⟩, ⟨h2, h3⟩, ⟨h4, h5⟩, ⟨p0, p1⟩, trivial⟩, rfl⟩ .nil)))
  · refine congrArg (Value.int .i8) ?_
    show dx = 0 + (sx * X + (0 * Y + (0 * (X - Y) + 0))); omega
  · refine congrArg (Value.int .i8) ?_
    show dy = 0 + (0 * X + (sy * Y + (0 * (X - Y) + 0))); omega
  · refine congrArg (Value.int .u8) ?_
    show pa = 0 + (0 * X + (0 * Y + (0 * (X - Y) + (1 * pa + 0)))); omega
theorem slide_law {W : World} (hW : GlobOK W) (dx : Int) (x0 : -128 ≤ dx) (x1 : dx ≤ 127) (dy : Int) (y0 : -128 ≤ dy) (y1 : dy ≤ 127) (pa : Int) (p0 : 0 ≤ pa) (p1 : pa ≤ 255) : Calls Tryz.prog 4 #[.int .i8 dx, .int .i8 dy, .int .u8 pa] W fun e W' => e = .returned (.bool true) ∧ Below W.heap.size W W' := by
  by_cases a0 : 0 ≤ dx
  · by_cases a1 : 0 ≤ dy
    · by_cases c3 : dx < 20
      · by_cases c4 : dy < 10
        · by_cases c5 : dx < 9
          · by_cases c6 : dy < 9
            · exact slide_leaf hW (X := dx) (Y := dy) sp0_p0_n p0 p1 (by omega) (by omega) (by omega) (by omega) (by omega) (by omega) (by omega) (by omega)
            · exact slide_leaf hW (X := dx) (Y := dy) sp0_p9_n p0 p1 (by omega) (by omega) (by omega) (by omega) (by omega) (by omega) (by omega) (by omega)
          · exact slide_leaf hW (X := dx) (Y := dy) sp9_p0_n p0 p1 (by omega) (by omega) (by omega) (by omega) (by omega) (by omega) (by omega) (by omega)
        · by_cases c5 : dx < 9
          · exact slide_leaf hW (X := dx) (Y := dy) sp0_p10_n p0 p1 (by omega) (by omega) (by omega) (by omega) (by omega) (by omega) (by omega) (by omega)
          · by_cases c6 : dy ≤ dx
            · exact slide_leaf hW (X := dx) (Y := dy) sp9_p10_t p0 p1 (by omega) (by omega) (by omega) (by omega) (by omega) (by omega) (by omega) (by omega)
            · exact slide_leaf hW (X := dx) (Y := dy) sp9_p10_f p0 p1 (by omega) (by omega) (by omega) (by omega) (by omega) (by omega) (by omega) (by omega)
      · by_cases c4 : dx < 40
        · by_cases c5 : dy < 10
          · exact slide_leaf hW (X := dx) (Y := dy) sp20_p0_n p0 p1 (by omega) (by omega) (by omega) (by omega) (by omega) (by omega) (by omega) (by omega)
          · by_cases c6 : dy ≤ dx
            · exact slide_leaf hW (X := dx) (Y := dy) sp20_p10_t p0 p1 (by omega) (by omega) (by omega) (by omega) (by omega) (by omega) (by omega) (by omega)
            · exact slide_leaf hW (X := dx) (Y := dy) sp20_p10_f p0 p1 (by omega) (by omega) (by omega) (by omega) (by omega) (by omega) (by omega) (by omega)
        · by_cases c5 : dy ≤ dx
          · exact slide_leaf hW (X := dx) (Y := dy) sp40_p0_t p0 p1 (by omega) (by omega) (by omega) (by omega) (by omega) (by omega) (by omega) (by omega)
          · by_cases c6 : dy < 9
            · exfalso; omega
            · exact slide_leaf hW (X := dx) (Y := dy) sp40_p9_f p0 p1 (by omega) (by omega) (by omega) (by omega) (by omega) (by omega) (by omega) (by omega)
    · by_cases c3 : dx < 20
      · by_cases c4 : (-dy) < 11
        · by_cases c5 : dx < 9
          · by_cases c6 : (-dy) < 9
            · exact slide_leaf hW (X := dx) (Y := (-dy)) sp0_n1_n p0 p1 (by omega) (by omega) (by omega) (by omega) (by omega) (by omega) (by omega) (by omega)
            · exact slide_leaf hW (X := dx) (Y := (-dy)) sp0_n9_n p0 p1 (by omega) (by omega) (by omega) (by omega) (by omega) (by omega) (by omega) (by omega)
          · by_cases c6 : (-dy) ≤ dx
            · exact slide_leaf hW (X := dx) (Y := (-dy)) sp9_n1_t p0 p1 (by omega) (by omega) (by omega) (by omega) (by omega) (by omega) (by omega) (by omega)
            · by_cases c7 : (-dy) < 9
              · exfalso; omega
              · exact slide_leaf hW (X := dx) (Y := (-dy)) sp9_n9_f p0 p1 (by omega) (by omega) (by omega) (by omega) (by omega) (by omega) (by omega) (by omega)
        · by_cases c5 : dx < 9
          · exact slide_leaf hW (X := dx) (Y := (-dy)) sp0_n11_n p0 p1 (by omega) (by omega) (by omega) (by omega) (by omega) (by omega) (by omega) (by omega)
          · by_cases c6 : (-dy) ≤ dx
            · exact slide_leaf hW (X := dx) (Y := (-dy)) sp9_n11_t p0 p1 (by omega) (by omega) (by omega) (by omega) (by omega) (by omega) (by omega) (by omega)
            · exact slide_leaf hW (X := dx) (Y := (-dy)) sp9_n11_f p0 p1 (by omega) (by omega) (by omega) (by omega) (by omega) (by omega) (by omega) (by omega)
      · by_cases c4 : dx < 40
        · by_cases c5 : (-dy) < 11
          · exact slide_leaf hW (X := dx) (Y := (-dy)) sp20_n1_n p0 p1 (by omega) (by omega) (by omega) (by omega) (by omega) (by omega) (by omega) (by omega)
          · by_cases c6 : (-dy) ≤ dx
            · exact slide_leaf hW (X := dx) (Y := (-dy)) sp20_n11_t p0 p1 (by omega) (by omega) (by omega) (by omega) (by omega) (by omega) (by omega) (by omega)
            · exact slide_leaf hW (X := dx) (Y := (-dy)) sp20_n11_f p0 p1 (by omega) (by omega) (by omega) (by omega) (by omega) (by omega) (by omega) (by omega)
        · by_cases c5 : (-dy) ≤ dx
          · exact slide_leaf hW (X := dx) (Y := (-dy)) sp40_n1_t p0 p1 (by omega) (by omega) (by omega) (by omega) (by omega) (by omega) (by omega) (by omega)
          · by_cases c6 : (-dy) < 9
            · exfalso; omega
            · exact slide_leaf hW (X := dx) (Y := (-dy)) sp40_n9_f p0 p1 (by omega) (by omega) (by omega) (by omega) (by omega) (by omega) (by omega) (by omega)
  · by_cases a1 : 0 ≤ dy
    · by_cases c3 : (-dx) < 21
      · by_cases c4 : dy < 10
        · by_cases c5 : (-dx) < 9
          · by_cases c6 : dy < 9
            · exact slide_leaf hW (X := (-dx)) (Y := dy) sn1_p0_n p0 p1 (by omega) (by omega) (by omega) (by omega) (by omega) (by omega) (by omega) (by omega)
            · exact slide_leaf hW (X := (-dx)) (Y := dy) sn1_p9_n p0 p1 (by omega) (by omega) (by omega) (by omega) (by omega) (by omega) (by omega) (by omega)
          · exact slide_leaf hW (X := (-dx)) (Y := dy) sn9_p0_n p0 p1 (by omega) (by omega) (by omega) (by omega) (by omega) (by omega) (by omega) (by omega)
        · by_cases c5 : (-dx) < 9
          · exact slide_leaf hW (X := (-dx)) (Y := dy) sn1_p10_n p0 p1 (by omega) (by omega) (by omega) (by omega) (by omega) (by omega) (by omega) (by omega)
          · by_cases c6 : dy ≤ (-dx)
            · exact slide_leaf hW (X := (-dx)) (Y := dy) sn9_p10_t p0 p1 (by omega) (by omega) (by omega) (by omega) (by omega) (by omega) (by omega) (by omega)
            · exact slide_leaf hW (X := (-dx)) (Y := dy) sn9_p10_f p0 p1 (by omega) (by omega) (by omega) (by omega) (by omega) (by omega) (by omega) (by omega)
      · by_cases c4 : (-dx) < 61
        · by_cases c5 : dy < 10
          · exact slide_leaf hW (X := (-dx)) (Y := dy) sn21_p0_n p0 p1 (by omega) (by omega) (by omega) (by omega) (by omega) (by omega) (by omega) (by omega)
          · by_cases c6 : dy ≤ (-dx)
            · exact slide_leaf hW (X := (-dx)) (Y := dy) sn21_p10_t p0 p1 (by omega) (by omega) (by omega) (by omega) (by omega) (by omega) (by omega) (by omega)
            · exact slide_leaf hW (X := (-dx)) (Y := dy) sn21_p10_f p0 p1 (by omega) (by omega) (by omega) (by omega) (by omega) (by omega) (by omega) (by omega)
        · by_cases c5 : dy ≤ (-dx)
          · exact slide_leaf hW (X := (-dx)) (Y := dy) sn61_p0_t p0 p1 (by omega) (by omega) (by omega) (by omega) (by omega) (by omega) (by omega) (by omega)
          · by_cases c6 : dy < 9
            · exfalso; omega
            · exact slide_leaf hW (X := (-dx)) (Y := dy) sn61_p9_f p0 p1 (by omega) (by omega) (by omega) (by omega) (by omega) (by omega) (by omega) (by omega)
    · by_cases c3 : (-dx) < 21
      · by_cases c4 : (-dy) < 11
        · by_cases c5 : (-dx) < 9
          · by_cases c6 : (-dy) < 9
            · exact slide_leaf hW (X := (-dx)) (Y := (-dy)) sn1_n1_n p0 p1 (by omega) (by omega) (by omega) (by omega) (by omega) (by omega) (by omega) (by omega)
            · exact slide_leaf hW (X := (-dx)) (Y := (-dy)) sn1_n9_n p0 p1 (by omega) (by omega) (by omega) (by omega) (by omega) (by omega) (by omega) (by omega)
          · by_cases c6 : (-dy) ≤ (-dx)
            · exact slide_leaf hW (X := (-dx)) (Y := (-dy)) sn9_n1_t p0 p1 (by omega) (by omega) (by omega) (by omega) (by omega) (by omega) (by omega) (by omega)
            · by_cases c7 : (-dy) < 9
              · exfalso; omega
              · exact slide_leaf hW (X := (-dx)) (Y := (-dy)) sn9_n9_f p0 p1 (by omega) (by omega) (by omega) (by omega) (by omega) (by omega) (by omega) (by omega)
        · by_cases c5 : (-dx) < 9
          · exact slide_leaf hW (X := (-dx)) (Y := (-dy)) sn1_n11_n p0 p1 (by omega) (by omega) (by omega) (by omega) (by omega) (by omega) (by omega) (by omega)
          · by_cases c6 : (-dy) ≤ (-dx)
            · exact slide_leaf hW (X := (-dx)) (Y := (-dy)) sn9_n11_t p0 p1 (by omega) (by omega) (by omega) (by omega) (by omega) (by omega) (by omega) (by omega)
            · exact slide_leaf hW (X := (-dx)) (Y := (-dy)) sn9_n11_f p0 p1 (by omega) (by omega) (by omega) (by omega) (by omega) (by omega) (by omega) (by omega)
      · by_cases c4 : (-dx) < 61
        · by_cases c5 : (-dy) < 11
          · exact slide_leaf hW (X := (-dx)) (Y := (-dy)) sn21_n1_n p0 p1 (by omega) (by omega) (by omega) (by omega) (by omega) (by omega) (by omega) (by omega)
          · by_cases c6 : (-dy) ≤ (-dx)
            · exact slide_leaf hW (X := (-dx)) (Y := (-dy)) sn21_n11_t p0 p1 (by omega) (by omega) (by omega) (by omega) (by omega) (by omega) (by omega) (by omega)
            · exact slide_leaf hW (X := (-dx)) (Y := (-dy)) sn21_n11_f p0 p1 (by omega) (by omega) (by omega) (by omega) (by omega) (by omega) (by omega) (by omega)
        · by_cases c5 : (-dy) ≤ (-dx)
          · exact slide_leaf hW (X := (-dx)) (Y := (-dy)) sn61_n1_t p0 p1 (by omega) (by omega) (by omega) (by omega) (by omega) (by omega) (by omega) (by omega)
          · by_cases c6 : (-dy) < 9
            · exfalso; omega
            · exact slide_leaf hW (X := (-dx)) (Y := (-dy)) sn61_n9_f p0 p1 (by omega) (by omega) (by omega) (by omega) (by omega) (by omega) (by omega) (by omega)
end Go.Proofs.YtjefclbjjcglkaaGreatDoor
