/- PointerSlides: a run, by signs and bounds. -/
import Derived.Test.YtjefclbjjcglkaaGreatDoorPt2
set_option maxRecDepth 100000
set_option linter.unusedVariables false
namespace Go.Proofs.YtjefclbjjcglkaaGreatDoor
open Go Go.Ev
noncomputable section
def lq : List Sm := [smT 60 10 [.i .i64 1, .i .i64 3] 2, smT 5 5 [.i .i64 1, .i .i64 2] 2, q0, q1, q2, q3, q4, q5, q6, q7, q8, q9, q10, q11, q12, q13, q14, q15, q16, q17, q18, q19]
def smD : Sm := ⟨[scT, .c (.i .i64 2)], scFoot, .val (.b false)⟩
def lD : List Sm := [smD]
def smR : Sm := ⟨[scT, .c (.sl 73 0 2 2 1 false)], (73, [.i .i64 1, .i .i64 3]) :: scFoot, .row [.i .i64 4, .i .i64 3, .i .i64 0, .i .i64 0, .nils, .i .i64 0, .i .i64 0, .i .i64 0] 1 1 8⟩
def lR : List Sm := [smR]
def sm4 : T (List Sm) := (@T.n (List Sm) (@none (List Sm)) (@T.n (List Sm) (@none (List Sm)) (@T.e (List Sm)) (@T.n (List Sm) (@some (List Sm) l9) (@T.e (List Sm)) (@T.e (List Sm)) (@T.e (List Sm)) (@T.e (List Sm))) (@T.e (List Sm)) (@T.n (List Sm) (@none (List Sm)) (@T.e (List Sm)) (@T.n (List Sm) (@none (List Sm)) (@T.n (List Sm) (@some (List Sm) lR) (@T.e (List Sm)) (@T.e (List Sm)) (@T.e (List Sm)) (@T.e (List Sm))) (@T.e (List Sm)) (@T.e (List Sm)) (@T.e (List Sm))) (@T.e (List Sm)) (@T.e (List Sm)))) (@T.n (List Sm) (@none (List Sm)) (@T.n (List Sm) (@none (List Sm)) (@T.n (List Sm) (@some (List Sm) lq) (@T.e (List Sm)) (@T.e (List Sm)) (@T.e (List Sm)) (@T.e (List Sm))) (@T.e (List Sm)) (@T.e (List Sm)) (@T.e (List Sm))) (@T.e (List Sm)) (@T.e (List Sm)) (@T.e (List Sm))) (@T.n (List Sm) (@none (List Sm)) (@T.e (List Sm)) (@T.n (List Sm) (@some (List Sm) lD) (@T.e (List Sm)) (@T.e (List Sm)) (@T.e (List Sm)) (@T.e (List Sm))) (@T.e (List Sm)) (@T.e (List Sm))) (@T.n (List Sm) (@none (List Sm)) (@T.n (List Sm) (@none (List Sm)) (@T.n (List Sm) (@some (List Sm) l24) (@T.e (List Sm)) (@T.e (List Sm)) (@T.e (List Sm)) (@T.e (List Sm))) (@T.e (List Sm)) (@T.e (List Sm)) (@T.e (List Sm))) (@T.e (List Sm)) (@T.e (List Sm)) (@T.e (List Sm))))
end
theorem runD : runSm evE 3000 100 11 smD = some true := by kernel_rfl
theorem runR : runSm evE 3000 100 113 smR = some true := by kernel_rfl
theorem okq : ∀ s, s ∈ lq → SmOK Tryz.prog 22 s := by
  intro s hs
  rcases List.mem_cons.1 hs with rfl | hs
  · exact sm_ok ev_ok0 runT1
  rcases List.mem_cons.1 hs with rfl | hs
  · exact sm_ok ev_ok0 runT2
  rcases List.mem_cons.1 hs with rfl | hs
  · exact sm_ok ev_ok0 run0
  rcases List.mem_cons.1 hs with rfl | hs
  · exact sm_ok ev_ok0 run1
  rcases List.mem_cons.1 hs with rfl | hs
  · exact sm_ok ev_ok0 run2
  rcases List.mem_cons.1 hs with rfl | hs
  · exact sm_ok ev_ok0 run3
  rcases List.mem_cons.1 hs with rfl | hs
  · exact sm_ok ev_ok0 run4
  rcases List.mem_cons.1 hs with rfl | hs
  · exact sm_ok ev_ok0 run5
  rcases List.mem_cons.1 hs with rfl | hs
  · exact sm_ok ev_ok0 run6
  rcases List.mem_cons.1 hs with rfl | hs
  · exact sm_ok ev_ok0 run7
  rcases List.mem_cons.1 hs with rfl | hs
  · exact sm_ok ev_ok0 run8
  rcases List.mem_cons.1 hs with rfl | hs
  · exact sm_ok ev_ok0 run9
  rcases List.mem_cons.1 hs with rfl | hs
  · exact sm_ok ev_ok0 run10
  rcases List.mem_cons.1 hs with rfl | hs
  · exact sm_ok ev_ok0 run11
  rcases List.mem_cons.1 hs with rfl | hs
  · exact sm_ok ev_ok0 run12
  rcases List.mem_cons.1 hs with rfl | hs
  · exact sm_ok ev_ok0 run13
  rcases List.mem_cons.1 hs with rfl | hs
  · exact sm_ok ev_ok0 run14
  rcases List.mem_cons.1 hs with rfl | hs
  · exact sm_ok ev_ok0 run15
  rcases List.mem_cons.1 hs with rfl | hs
  · exact sm_ok ev_ok0 run16
  rcases List.mem_cons.1 hs with rfl | hs
  · exact sm_ok ev_ok0 run17
  rcases List.mem_cons.1 hs with rfl | hs
  · exact sm_ok ev_ok0 run18
  rcases List.mem_cons.1 hs with rfl | hs
  · exact sm_ok ev_ok0 run19
  cases hs
theorem okD : ∀ s, s ∈ lD → SmOK Tryz.prog 11 s := by
  intro s hs
  rcases List.mem_cons.1 hs with rfl | hs
  · exact sm_ok ev_ok0 runD
  cases hs
theorem okR : ∀ s, s ∈ lR → SmOK Tryz.prog 113 s := by
  intro s hs
  rcases List.mem_cons.1 hs with rfl | hs
  · exact sm_ok ev_ok0 runR
  cases hs
theorem ev_ok4 : EOk Tryz.prog (evEw sm4) := ev_ok sm4 fun f l s h hs => by
  have hk := T.get_keys h
  rw [show T.keys sm4 = [9, 113, 22, 11, 24] from rfl] at hk
  simp only [List.mem_cons, List.not_mem_nil, or_false] at hk
  rcases hk with rfl | rfl | rfl | rfl | rfl
  · cases (show some l9 = some l from h); exact ok9 s hs
  · cases (show some lR = some l from h); exact okR s hs
  · cases (show some lq = some l from h); exact okq s hs
  · cases (show some lD = some l from h); exact okD s hs
  · cases (show some l24 = some l from h); exact ok24 s hs
/-- dx = sx · v0, dy = sy · v1, v2 = v0 - v1, pause = v3 -/
noncomputable def slideK (sx xl xh sy yl yh rl rh : Int) : Option Bool := callK (evEw sm4) 3000 4 [.c (.y .i8 0 [(sx, xl, xh), (0, yl, yh), (0, rl, rh)]), .c (.y .i8 0 [(0, xl, xh), (sy, yl, yh), (0, rl, rh)]), .c (.y .u8 0 [(0, xl, xh), (0, yl, yh), (0, rl, rh), (1, 0, 255)])] evH fun v _ => withC v fun v => withB v fun b => some b
end Go.Proofs.YtjefclbjjcglkaaGreatDoor
