/- The seat's environment is the program's. -/
import Derived.Test.YtjefclbjjcglkaaGreatDoorEvE
import Derived.Test.YtjefclbjjcglkaaGreatDoorEv21
import Derived.Test.YtjefclbjjcglkaaGreatDoorChecked
set_option maxRecDepth 100000
set_option linter.unusedVariables false
namespace Go.Proofs.YtjefclbjjcglkaaGreatDoor
open Go Go.Ev
theorem ev_mixed : Tryz.prog.follows .mixedOrders = true := by kernel_rfl
theorem ev_name : fnB evFs = true := by kernel_rfl
theorem ev_fs : (T.keys evFs).map (T.get evFs) = (T.keys evFs).map (fun k => Tryz.prog.funcs[k]?) := by kernel_rfl
theorem ev_ty : tysB Tryz.prog evTy = true := by kernel_rfl
theorem ev_ok (sm : T (List Sm)) (h : ∀ f l s, T.get sm f = some l → s ∈ l → SmOK Tryz.prog f s) : EOk Tryz.prog (evEw sm) := eok_of ev_fs ev_name ev_ty ev_mixed h
end Go.Proofs.YtjefclbjjcglkaaGreatDoor
