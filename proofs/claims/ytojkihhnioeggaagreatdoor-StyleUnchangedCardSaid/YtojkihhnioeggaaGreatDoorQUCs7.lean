import Derived.Test.YtojkihhnioeggaaGreatDoorQUCs6
import Derived.WalkKit
import Derived.WalkSpells
import Derived.WalkLawsBesides
import Derived.Deep.QuietTactic
import Derived.BigQuiet
import Derived.BigRegion
import Derived.Lib.Hide
import Derived.Deep.RegionWith
set_option linter.unusedSimpArgs false
set_option linter.unusedVariables false
set_option linter.unusedSimpArgs false
set_option linter.unusedVariables false
namespace Go.Proofs.YtojkihhnioeggaaGreatDoor.S
open Go Go.Bm
theorem Yx (n : Nat) {p : aN} (h : bR p) : kV (vZ n p) fun y => (50 ≤ y.1.Scale ∧ y.1.Scale ≤ 400) ∧ bR y.2 := by
 unfold vZ
 refine aG (cV n h (by decide)) fun y1 ⟨_, _, c1⟩ => aG (cV n c1 (by decide)) fun y2 ⟨_, _, c2⟩ => aG (cV n c2 (by decide)) fun y3 ⟨a, b, c3⟩ => aG (lV a (b (by decide))) fun e he => bX ⟨?_, c3⟩
 simp only [List.mem_cons, List.not_mem_nil, or_false] at he
 show 50 ≤ e ∧ e ≤ 400
 omega
theorem Pf {m : cY} (h : 50 ≤ m.Scale ∧ m.Scale ≤ 400) : mSc m = false := by
 unfold mSc; simp; omega
theorem Xe : oS 20000 = some true := by kernel_rfl
end Go.Proofs.YtojkihhnioeggaaGreatDoor.S
