import Derived.Test.YtojkihhnioeggaaGreatDoorQECs6
import Derived.WalkLawsBesides
import Derived.Deep.QuietTactic
import Derived.BigQuiet
import Derived.BigRegion
import Derived.Lib.Hide
import Derived.Deep.RegionWith
set_option linter.unusedSimpArgs false
set_option linter.all false
set_option linter.unusedVariables false
namespace Go.Proofs.YtojkihhnioeggaaGreatDoor.S
open Go Go.Bm
theorem src_Mode (n : Nat) {p : aW} (h : bR p) : jP (yC n p) fun y => (50 ≤ y.1.Scale ∧ y.1.Scale ≤ 400) ∧ bR y.2 := by
 unfold yC
 refine aK (cO n h (by decide)) fun y1 ⟨_, _, c1⟩ => aK (cO n c1 (by decide)) fun y2 ⟨_, _, c2⟩ => aK (cO n c2 (by decide)) fun y3 ⟨a, b, c3⟩ => aK (mG a (b (by decide))) fun e he => bZ ⟨?_, c3⟩
 simp only [List.mem_cons, List.not_mem_nil, or_false] at he
 show 50 ≤ e ∧ e ≤ 400
 omega
theorem Nc {m : cX} (h : 50 ≤ m.Scale ∧ m.Scale ≤ 400) : mSc m = false := by
 unfold mSc; simp; omega
theorem awake_in : qQ 20000 = some true := by kernel_rfl
end Go.Proofs.YtojkihhnioeggaaGreatDoor.S
