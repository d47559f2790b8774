/- What focus.Scope hands back in the scenes of PointerModal. -/
import Derived.Test.YtjefclbjjcglkaaGreatDoorPf2
set_option maxRecDepth 100000
set_option linter.unusedVariables false
namespace Go.Proofs.YtjefclbjjcglkaaGreatDoor
open Go Go.Ev Go.RowKit
noncomputable section
def mA : Sm := ⟨[(.agg [(.i .i64 1), (.i .i64 5), (.sl 45 0 4 4 7 .false)]), (.c (.sl 70 0 4 4 23 .false))], [(0, gl0), (33, [(.i .i64 2), (.i .i64 3)]), (40, [(.i .i64 4)]), (45, [(.i .i64 1), (.i .i64 0), (.i .i64 1), (.s ⟨#[]⟩), .nils, .nils, (.sl 33 0 2 2 1 .false), (.i .i64 2), (.i .i64 1), (.i .i64 3), (.s ⟨#[]⟩), .nils, .nils, .nils, (.i .i64 3), (.i .i64 1), (.i .i64 12), (.s ⟨#[]⟩), .nils, .nils, (.sl 40 0 1 1 1 .false), (.i .i64 4), (.i .i64 3), (.i .i64 3), (.s ⟨#[]⟩), .nils, .nils, .nils]), (70, [(.i .i64 1), (.i .i64 0), (.i .i64 (-1)), (.i .i64 16), (.i .i64 0), (.i .i64 0), (.i .i64 1), (.i .i64 3), (.i .i64 0), (.i .i64 0), (.i .i64 0), (.i .i64 0), (.i .i64 1), (.i .i64 (-1)), (.i .i64 0), (.i .i64 1048576), (.i .i64 0), (.i .i64 1048576), (.i .i64 0), (.i .i64 0), (.i .i64 0), (.i .i64 0), (.i .i64 0), (.i .i64 2), (.i .i64 0), (.i .i64 (-1)), (.i .i64 16), (.i .i64 0), (.i .i64 0), (.i .i64 1), (.i .i64 3), (.i .i64 0), (.i .i64 0), (.i .i64 0), (.i .i64 0), (.i .i64 1), (.i .i64 (-1)), (.i .i64 0), (.i .i64 1048576), (.i .i64 0), (.i .i64 1048576), (.i .i64 0), (.i .i64 0), (.i .i64 0), (.i .i64 0), (.i .i64 0), (.i .i64 3), (.i .i64 0), (.i .i64 (-1)), (.i .i64 16), (.i .i64 0), (.i .i64 0), (.i .i64 1), (.i .i64 3), (.i .i64 0), (.i .i64 0), (.i .i64 0), (.i .i64 0), (.i .i64 1), (.i .i64 (-1)), (.i .i64 0), (.i .i64 1048576), (.i .i64 0), (.i .i64 1048576), (.i .i64 0), (.i .i64 0), (.i .i64 0), (.i .i64 0), (.i .i64 0), (.i .i64 4), (.i .i64 0), (.i .i64 (-1)), (.i .i64 16), (.i .i64 0), (.i .i64 0), (.i .i64 1), (.i .i64 3), (.i .i64 0), (.i .i64 0), (.i .i64 0), (.i .i64 0), (.i .i64 1), (.i .i64 (-1)), (.i .i64 0), (.i .i64 1048576), (.i .i64 0), (.i .i64 1048576), (.i .i64 0), (.i .i64 0), (.i .i64 0), (.i .i64 0), (.i .i64 0)])], .val (.i .i64 3)⟩
def mB : Sm := ⟨[(.agg [(.i .i64 1), (.i .i64 5), (.sl 54 0 4 4 7 .false)]), (.c (.sl 77 0 4 4 23 .false))], [(0, gl0), (10, [(.s ⟨#[104, 105, 100, 100, 101, 110]⟩), (.i .i64 2), (.i .i64 1), (.s ⟨#[]⟩), .nils]), (42, [(.i .i64 2), (.i .i64 3)]), (49, [(.i .i64 4)]), (54, [(.i .i64 1), (.i .i64 0), (.i .i64 1), (.s ⟨#[]⟩), .nils, .nils, (.sl 42 0 2 2 1 .false), (.i .i64 2), (.i .i64 1), (.i .i64 3), (.s ⟨#[]⟩), .nils, .nils, .nils, (.i .i64 3), (.i .i64 1), (.i .i64 12), (.s ⟨#[]⟩), (.sl 10 0 1 1 5 .true), .nils, (.sl 49 0 1 1 1 .false), (.i .i64 4), (.i .i64 3), (.i .i64 3), (.s ⟨#[]⟩), .nils, .nils, .nils]), (77, [(.i .i64 1), (.i .i64 0), (.i .i64 (-1)), (.i .i64 16), (.i .i64 0), (.i .i64 0), (.i .i64 1), (.i .i64 3), (.i .i64 0), (.i .i64 0), (.i .i64 0), (.i .i64 0), (.i .i64 1), (.i .i64 (-1)), (.i .i64 0), (.i .i64 1048576), (.i .i64 0), (.i .i64 1048576), (.i .i64 0), (.i .i64 0), (.i .i64 0), (.i .i64 0), (.i .i64 0), (.i .i64 2), (.i .i64 0), (.i .i64 (-1)), (.i .i64 16), (.i .i64 0), (.i .i64 0), (.i .i64 1), (.i .i64 3), (.i .i64 0), (.i .i64 0), (.i .i64 0), (.i .i64 0), (.i .i64 1), (.i .i64 (-1)), (.i .i64 0), (.i .i64 1048576), (.i .i64 0), (.i .i64 1048576), (.i .i64 0), (.i .i64 0), (.i .i64 0), (.i .i64 0), (.i .i64 0), (.i .i64 3), (.i .i64 0), (.i .i64 (-1)), (.i .i64 16), (.i .i64 0), (.i .i64 0), (.i .i64 1), (.i .i64 3), (.i .i64 0), (.i .i64 0), (.i .i64 0), (.i .i64 0), (.i .i64 1), (.i .i64 (-1)), (.i .i64 0), (.i .i64 1048576), (.i .i64 0), (.i .i64 1048576), (.i .i64 0), (.i .i64 0), (.i .i64 0), (.i .i64 0), (.i .i64 0), (.i .i64 4), (.i .i64 0), (.i .i64 (-1)), (.i .i64 16), (.i .i64 0), (.i .i64 0), (.i .i64 1), (.i .i64 3), (.i .i64 0), (.i .i64 0), (.i .i64 0), (.i .i64 0), (.i .i64 1), (.i .i64 (-1)), (.i .i64 0), (.i .i64 1048576), (.i .i64 0), (.i .i64 1048576), (.i .i64 0), (.i .i64 0), (.i .i64 0), (.i .i64 0), (.i .i64 0)])], .val (.i .i64 1)⟩
def m24 : List Sm := [mA, mB]
def sm3 : T (List Sm) := (@T.n (List Sm) (@none (List Sm)) (@T.n (List Sm) (@none (List Sm)) (@T.e (List Sm)) (@T.n (List Sm) (@some (List Sm) l9) (@T.e (List Sm)) (@T.e (List Sm)) (@T.e (List Sm)) (@T.e (List Sm))) (@T.e (List Sm)) (@T.e (List Sm))) (@T.e (List Sm)) (@T.e (List Sm)) (@T.n (List Sm) (@none (List Sm)) (@T.n (List Sm) (@none (List Sm)) (@T.n (List Sm) (@some (List Sm) m24) (@T.e (List Sm)) (@T.e (List Sm)) (@T.e (List Sm)) (@T.e (List Sm))) (@T.e (List Sm)) (@T.e (List Sm)) (@T.e (List Sm))) (@T.e (List Sm)) (@T.e (List Sm)) (@T.e (List Sm))))
end
theorem runMA : runSm evE 3000 100 24 mA = some true := by kernel_rfl
theorem runMB : runSm evE 3000 100 24 mB = some true := by kernel_rfl
theorem okM24 : ∀ s, s ∈ m24 → SmOK Tryz.prog 24 s := by
  intro s hs
  rcases List.mem_cons.1 hs with rfl | hs
  · exact sm_ok ev_ok0 runMA
  rcases List.mem_cons.1 hs with rfl | hs
  · exact sm_ok ev_ok0 runMB
  cases hs
theorem ev_ok3 : EOk Tryz.prog (evEw sm3) := ev_ok sm3 fun f l s h hs => by
  have hk := T.get_keys h
  rw [show T.keys sm3 = [9, 24] from rfl] at hk
  simp only [List.mem_cons, List.not_mem_nil, or_false] at hk
  rcases hk with rfl | rfl
  · cases (show some l9 = some l from h); exact ok9 s hs
  · cases (show some m24 = some l from h); exact okM24 s hs
noncomputable def modalK (xl xh yl yh : Int) (b : Bool) : Option Bool := callK (evEw sm3) 3000 3 [.c (.y .u8 0 [(1, xl, xh)]), .c (.y .u8 0 [(0, xl, xh), (1, yl, yh)]), .c (.b b)] evH fun v _ => withC v fun v => withB v fun b => some b
end Go.Proofs.YtjefclbjjcglkaaGreatDoor
