/- PointerModal: whatever the point, the law's call returns true. -/
import Derived.Test.YtjefclbjjcglkaaGreatDoorPm2
import Derived.Test.YtjefclbjjcglkaaGreatDoorPm3
import Derived.Test.YtjefclbjjcglkaaGreatDoorPm4
import Derived.Test.YtjefclbjjcglkaaGreatDoorPm5
import Derived.Test.YtjefclbjjcglkaaGreatDoorPm6
import Derived.Test.YtjefclbjjcglkaaGreatDoorEvG
set_option linter.unusedVariables false
namespace Go.Proofs.YtjefclbjjcglkaaGreatDoor
open Go Go.Ev Go.RowKit
theorem modal_leaf {W : World} (hW : GlobOK W) {px py xl xh yl yh : Int} {b : Bool} (hr : modalK xl xh yl yh b = some true) (h0 : xl ≤ px) (h1 : px ≤ xh) (h2 : yl ≤ py) (h3 : py ≤ yh) : Calls Tryz.prog 3 #[.int .u8 px, .int .u8 py, .bool b] W fun e W' => e = .returned (.bool true) ∧ Below W.heap.size W W' := by
  refine law_ok (vs := [.int .u8 px, .int .u8 py, .bool b]) ev_ok3 hW (fun i => if i = 0 then px else if i = 1 then py else px - py) hr (.cons ⟨?_, ⟨⟨h0, h1⟩, trivial⟩, rfl⟩ (.cons ⟨?_, ⟨⟨h0, h1⟩, ⟨h2, h3⟩, trivial⟩, rfl⟩ (.cons rfl .nil)))
  · refine congrArg (Value.int .u8) ?_
    show px = 0 + (1 * px + 0); omega
  · refine congrArg (Value.int .u8) ?_
    show py = 0 + (0 * px + (1 * py + 0)); omega
theorem modal_law {W : World} (hW : GlobOK W) (px : Int) (x0 : 0 ≤ px) (x1 : px ≤ 255) (py : Int) (y0 : 0 ≤ py) (y1 : py ≤ 255) (b : Bool) : Calls Tryz.prog 3 #[.int .u8 px, .int .u8 py, .bool b] W fun e W' => e = .returned (.bool true) ∧ Below W.heap.size W W' := by
  cases b with
  | false =>
    by_cases c2 : px < 65
    · by_cases c3 : px < 60
      · by_cases c4 : px < 50
        · by_cases c5 : py < 50
          · exact modal_leaf hW m0_0_f (by omega) (by omega) (by omega) (by omega)
          · by_cases c6 : py < 100
            · exact modal_leaf hW m0_50_f (by omega) (by omega) (by omega) (by omega)
            · exact modal_leaf hW m0_100_f (by omega) (by omega) (by omega) (by omega)
        · by_cases c5 : py < 100
          · exact modal_leaf hW m50_0_f (by omega) (by omega) (by omega) (by omega)
          · exact modal_leaf hW m50_100_f (by omega) (by omega) (by omega) (by omega)
      · by_cases c4 : py < 60
        · exact modal_leaf hW m60_0_f (by omega) (by omega) (by omega) (by omega)
        · by_cases c5 : py < 90
          · exact modal_leaf hW m60_60_f (by omega) (by omega) (by omega) (by omega)
          · by_cases c6 : py < 100
            · exact modal_leaf hW m60_90_f (by omega) (by omega) (by omega) (by omega)
            · exact modal_leaf hW m60_100_f (by omega) (by omega) (by omega) (by omega)
    · by_cases c3 : px < 75
      · by_cases c4 : py < 65
        · by_cases c5 : py < 60
          · exact modal_leaf hW m65_0_f (by omega) (by omega) (by omega) (by omega)
          · exact modal_leaf hW m65_60_f (by omega) (by omega) (by omega) (by omega)
        · by_cases c5 : py < 75
          · exact modal_leaf hW m65_65_f (by omega) (by omega) (by omega) (by omega)
          · by_cases c6 : py < 90
            · exact modal_leaf hW m65_75_f (by omega) (by omega) (by omega) (by omega)
            · by_cases c7 : py < 100
              · exact modal_leaf hW m65_90_f (by omega) (by omega) (by omega) (by omega)
              · exact modal_leaf hW m65_100_f (by omega) (by omega) (by omega) (by omega)
      · by_cases c4 : px < 90
        · by_cases c5 : py < 60
          · exact modal_leaf hW m75_0_f (by omega) (by omega) (by omega) (by omega)
          · by_cases c6 : py < 90
            · exact modal_leaf hW m75_60_f (by omega) (by omega) (by omega) (by omega)
            · by_cases c7 : py < 100
              · exact modal_leaf hW m75_90_f (by omega) (by omega) (by omega) (by omega)
              · exact modal_leaf hW m75_100_f (by omega) (by omega) (by omega) (by omega)
        · by_cases c5 : px < 100
          · by_cases c6 : py < 100
            · exact modal_leaf hW m90_0_f (by omega) (by omega) (by omega) (by omega)
            · exact modal_leaf hW m90_100_f (by omega) (by omega) (by omega) (by omega)
          · exact modal_leaf hW m100_0_f (by omega) (by omega) (by omega) (by omega)
  | true =>
    by_cases c2 : px < 50
    · by_cases c3 : py < 50
      · exact modal_leaf hW m0_0_t (by omega) (by omega) (by omega) (by omega)
      · by_cases c4 : py < 100
        · exact modal_leaf hW m0_50_t (by omega) (by omega) (by omega) (by omega)
        · exact modal_leaf hW m0_100_t (by omega) (by omega) (by omega) (by omega)
    · by_cases c3 : px < 100
      · by_cases c4 : py < 100
        · by_cases c5 : px < 60
          · exact modal_leaf hW m50_0_t (by omega) (by omega) (by omega) (by omega)
          · by_cases c6 : px < 90
            · by_cases c7 : py < 60
              · exact modal_leaf hW m60_0_t (by omega) (by omega) (by omega) (by omega)
              · by_cases c8 : py < 90
                · exact modal_leaf hW m60_60_t (by omega) (by omega) (by omega) (by omega)
                · exact modal_leaf hW m60_90_t (by omega) (by omega) (by omega) (by omega)
            · exact modal_leaf hW m90_0_t (by omega) (by omega) (by omega) (by omega)
        · by_cases c5 : px < 60
          · exact modal_leaf hW m50_100_t (by omega) (by omega) (by omega) (by omega)
          · by_cases c6 : px < 90
            · exact modal_leaf hW m60_100_t (by omega) (by omega) (by omega) (by omega)
            · exact modal_leaf hW m90_100_t (by omega) (by omega) (by omega) (by omega)
      · exact modal_leaf hW m100_0_t (by omega) (by omega) (by omega) (by omega)
end Go.Proofs.YtjefclbjjcglkaaGreatDoor
