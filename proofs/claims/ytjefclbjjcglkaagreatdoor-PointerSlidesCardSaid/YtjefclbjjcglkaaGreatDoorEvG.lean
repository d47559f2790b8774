/- The variables that the seat's laws read, as they lie at the start. -/
import Derived.Test.YtjefclbjjcglkaaGreatDoorEvF
import Derived.Test.YtjefclbjjcglkaaGreatDoorEv22
set_option linter.unusedVariables false
namespace Go.Proofs.YtjefclbjjcglkaaGreatDoor
open Go Go.Ev Go.RowKit
def GlobOK (W : World) : Prop := 3 ≤ W.heap.size ∧ ∀ g o, T.get evH.t g = some o → ∃ l vs cs T fr, o = .ro l ∧ g < 3 ∧ ofVs vs = some l ∧ W.heap[g]? = some (.cells cs T fr) ∧ cs.toList = vs
theorem law_ok {sm : T (List Sm)} (hE : EOk Tryz.prog (evEw sm)) {n F : Nat} {args : List AV} {vs : List Value} {W : World} (hW : GlobOK W) (va : Nat → Int) (hrun : (callK (evEw sm) n F args evH fun v _ => withC v fun v => withB v fun b => some b) = some true) (ha : A2 (AR (phS W va)) args vs) :
    Calls Tryz.prog F vs.toArray W fun e W' => e = .returned (.bool true) ∧ Below W.heap.size W W' :=
  law_calls hE (k := 8) (t := evH.t) (va := va) (by decide) hrun hW.1 hW.2 ha
end Go.Proofs.YtjefclbjjcglkaaGreatDoor
