/- PointerFull: for every number the law's call returns true. -/
import Derived.Test.YtjefclbjjcglkaaGreatDoorPf4
import Derived.Test.YtjefclbjjcglkaaGreatDoorPf5
import Derived.Test.YtjefclbjjcglkaaGreatDoorEvG
set_option linter.unusedVariables false
namespace Go.Proofs.YtjefclbjjcglkaaGreatDoor
open Go Go.Ev Go.RowKit
theorem full_law {W : World} (hW : GlobOK W) (n : Int) (h0 : 0 ≤ n) (h1 : n ≤ 255) : Calls Tryz.prog 5 #[.int .u8 n] W fun e W' => e = .returned (.bool true) ∧ Below W.heap.size W W' := by
  have run : ∀ k : Int, n % 7 = k → lawK k = some true → Calls Tryz.prog 5 #[.int .u8 n] W fun e W' => e = .returned (.bool true) ∧ Below W.heap.size W W' := by
    intro k e hr
    refine law_ok (vs := [.int .u8 n]) ev_ok2 hW (fun i => if i = 1 then 0 else n / 7) hr (.cons ⟨?_, ⟨⟨?_, ?_⟩, trivial⟩, (by show n / 7 = n / 7 - 0; omega)⟩ .nil)
    · refine congrArg (Value.int .u8) ?_
      show n = k + (7 * (n / 7) + 0); omega
    · show 0 ≤ n / 7; omega
    · show n / 7 ≤ 36; omega
  rcases (by omega : n % 7 = 0 ∨ n % 7 = 1 ∨ n % 7 = 2 ∨ n % 7 = 3 ∨ n % 7 = 4 ∨ n % 7 = 5 ∨ n % 7 = 6) with e | e | e | e | e | e | e
  · exact run 0 e full0
  · exact run 1 e full1
  · exact run 2 e full2
  · exact run 3 e full3
  · exact run 4 e full4
  · exact run 5 e full5
  · exact run 6 e full6
end Go.Proofs.YtjefclbjjcglkaaGreatDoor
