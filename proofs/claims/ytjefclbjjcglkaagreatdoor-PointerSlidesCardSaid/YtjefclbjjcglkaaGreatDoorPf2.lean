/- What awake hands back; the law's runs. -/
import Derived.Test.YtjefclbjjcglkaaGreatDoorPf1
set_option maxRecDepth 100000
set_option linter.unusedVariables false
namespace Go.Proofs.YtjefclbjjcglkaaGreatDoor
open Go Go.Ev
noncomputable section
def l22 : List Sm := [smT 60 10 [.i .i64 1, .i .i64 3] 2, smT 5 5 [.i .i64 1, .i .i64 2] 2]
def l24 : List Sm := [smS]
def l9 : List Sm := [⟨[], [(0, gl0)], .val (.b true)⟩]
def sm1 : T (List Sm) := (@T.n (List Sm) (@none (List Sm)) (@T.e (List Sm)) (@T.n (List Sm) (@none (List Sm)) (@T.n (List Sm) (@none (List Sm)) (@T.n (List Sm) (@some (List Sm) l22) (@T.e (List Sm)) (@T.e (List Sm)) (@T.e (List Sm)) (@T.e (List Sm))) (@T.e (List Sm)) (@T.e (List Sm)) (@T.e (List Sm))) (@T.e (List Sm)) (@T.e (List Sm)) (@T.e (List Sm))) (@T.e (List Sm)) (@T.n (List Sm) (@none (List Sm)) (@T.n (List Sm) (@none (List Sm)) (@T.n (List Sm) (@some (List Sm) l24) (@T.e (List Sm)) (@T.e (List Sm)) (@T.e (List Sm)) (@T.e (List Sm))) (@T.e (List Sm)) (@T.e (List Sm)) (@T.e (List Sm))) (@T.e (List Sm)) (@T.e (List Sm)) (@T.e (List Sm))))
def sm2 : T (List Sm) := (@T.n (List Sm) (@none (List Sm)) (@T.n (List Sm) (@none (List Sm)) (@T.e (List Sm)) (@T.n (List Sm) (@some (List Sm) l9) (@T.e (List Sm)) (@T.e (List Sm)) (@T.e (List Sm)) (@T.e (List Sm))) (@T.e (List Sm)) (@T.e (List Sm))) (@T.n (List Sm) (@none (List Sm)) (@T.n (List Sm) (@none (List Sm)) (@T.n (List Sm) (@some (List Sm) l22) (@T.e (List Sm)) (@T.e (List Sm)) (@T.e (List Sm)) (@T.e (List Sm))) (@T.e (List Sm)) (@T.e (List Sm)) (@T.e (List Sm))) (@T.e (List Sm)) (@T.e (List Sm)) (@T.e (List Sm))) (@T.e (List Sm)) (@T.n (List Sm) (@none (List Sm)) (@T.n (List Sm) (@none (List Sm)) (@T.n (List Sm) (@some (List Sm) l24) (@T.e (List Sm)) (@T.e (List Sm)) (@T.e (List Sm)) (@T.e (List Sm))) (@T.e (List Sm)) (@T.e (List Sm)) (@T.e (List Sm))) (@T.e (List Sm)) (@T.e (List Sm)) (@T.e (List Sm))))
end
theorem ok22 : ∀ s, s ∈ l22 → SmOK Tryz.prog 22 s := by
  intro s hs
  rcases List.mem_cons.1 hs with rfl | hs
  · exact sm_ok ev_ok0 runT1
  rcases List.mem_cons.1 hs with rfl | hs
  · exact sm_ok ev_ok0 runT2
  cases hs
theorem ok24 : ∀ s, s ∈ l24 → SmOK Tryz.prog 24 s := by
  intro s hs
  rcases List.mem_cons.1 hs with rfl | hs
  · exact sm_ok ev_ok0 runS1
  cases hs
theorem ev_ok1 : EOk Tryz.prog (evEw sm1) := ev_ok sm1 fun f l s h hs => by
  have hk := T.get_keys h
  rw [show T.keys sm1 = [22, 24] from rfl] at hk
  simp only [List.mem_cons, List.not_mem_nil, or_false] at hk
  rcases hk with rfl | rfl
  · cases (show some l22 = some l from h); exact ok22 s hs
  · cases (show some l24 = some l from h); exact ok24 s hs
theorem runA : runSm (evEw sm1) 3000 8 9 ⟨[], [(0, gl0)], .val (.b true)⟩ = some true := by kernel_rfl
theorem ok9 : ∀ s, s ∈ l9 → SmOK Tryz.prog 9 s := by
  intro s hs
  rcases List.mem_cons.1 hs with rfl | hs
  · exact sm_ok ev_ok1 runA
  cases hs
theorem ev_ok2 : EOk Tryz.prog (evEw sm2) := ev_ok sm2 fun f l s h hs => by
  have hk := T.get_keys h
  rw [show T.keys sm2 = [9, 22, 24] from rfl] at hk
  simp only [List.mem_cons, List.not_mem_nil, or_false] at hk
  rcases hk with rfl | rfl | rfl
  · cases (show some l9 = some l from h); exact ok9 s hs
  · cases (show some l22 = some l from h); exact ok22 s hs
  · cases (show some l24 = some l from h); exact ok24 s hs
end Go.Proofs.YtjefclbjjcglkaaGreatDoor
