/- Rows of verdicts, as they read. -/
import Derived.Test.YtcnmljpabmgieaaAr13
import Derived.WalkKit
import Derived.WalkSpells
import Derived.WalkLawsBesides
import Derived.Deep.QuietTactic
import Derived.BigQuiet
import Derived.BigRegion
import Derived.Lib.Hide
import Derived.Deep.RegionWith
set_option linter.unusedSimpArgs false
set_option linter.unusedVariables false
namespace Go.Proofs.Ytcnmljpabmgieaa.R
open Go.RowKit
theorem vd_flat_get (l : List Vd) : ∀ (i : Nat) (e : Vd), l[i]? = some e → ∀ j, j < 2 → (l.flatMap vdL)[i * 2 + j]? = (vdL e)[j]? := by
  induction l with
  | nil => intro i e h; simp at h
  | cons x l ih =>
    intro i e h j hj
    rw [List.flatMap_cons]
    cases i with
    | zero =>
      simp only [List.getElem?_cons_zero, Option.some.injEq] at h
      subst h
      rw [Nat.zero_mul, Nat.zero_add, List.getElem?_append_left (by simpa [vdL] using hj)]
    | succ i =>
      simp only [List.getElem?_cons_succ] at h
      rw [List.getElem?_append_right (by simp [vdL]; omega), show (i + 1) * 2 + j - (vdL x).length = i * 2 + j by simp [vdL]; omega]
      exact ih i e h j hj
/-- verdicts lie from a block's start on -/
def VdsAt (w : World) (b : Nat) (l : List Vd) : Prop := ∀ i v, l[i]? = some v → w.cell? ⟨b, i * 2, none⟩ = some (.int .i64 v.Member) ∧ w.cell? ⟨b, i * 2 + 1, none⟩ = some (.bool v.Won)
theorem OV.rep {w : World} {va : Option Addr} {vc : Nat} {l : List Vd} (h : OV w va vc l) : l = [] ∨ ∃ b, va = some ⟨b, 0, none⟩ ∧ VdsAt w b l := by
  obtain ⟨hlen, h⟩ := h
  rcases h with ⟨_, h0⟩ | ⟨g, cap, cur, hv, hB, hg, hn, hm, hs, ht⟩
  · exact .inl (List.length_eq_zero_iff.1 h0)
  · simp only [Value.slice.injEq] at hv
    obtain ⟨rfl, _, _⟩ := hv
    refine .inr ⟨g, rfl, ?_⟩
    intro i v hi
    have hil : i < l.length := (List.getElem?_eq_some_iff.1 hi).1
    have key : ∀ j, j < 2 → w.cell? ⟨g, i * 2 + j, none⟩ = (vdL v)[j]? := by
      intro j hj
      rw [← vd_flat_get l i v hi j hj, ← ht, List.getElem?_take_of_lt (by omega), heap_cell hg, Array.getElem?_toList]
    exact ⟨key 0 (by omega), key 1 (by omega)⟩
theorem VdsAt.ext {w w' : World} {b : Nat} {l : List Vd} (h : VdsAt w b l) (he : Ext w w') : VdsAt w' b l := fun i v hi => ⟨he.cell_some (h i v hi).1, he.cell_some (h i v hi).2⟩
end Go.Proofs.Ytcnmljpabmgieaa.R
