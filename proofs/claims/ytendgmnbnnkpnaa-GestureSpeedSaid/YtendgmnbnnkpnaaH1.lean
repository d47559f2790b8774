/- slices.Clone at samples and at touches, walked. -/
import Derived.Test.YtendgmnbnnkpnaaG4
import Derived.Test.YtendgmnbnnkpnaaX4
import Derived.WalkKit
import Derived.WalkSpells
import Derived.WalkLawsBesides
import Derived.Deep.QuietTactic
import Derived.BigQuiet
import Derived.BigRegion
import Derived.Lib.Hide
import Derived.Deep.RegionWith
set_option linter.unusedSimpArgs false
set_option linter.unusedVariables false
namespace Go.Proofs.Ytendgmnbnnkpnaa.G
open Go.RowKit

/-- what lies in memory of samples -/
def cellsS : List Smp → List Value
  | [] => []
  | s :: l => .int .i64 s.X :: .int .i64 s.Y :: .int .i64 s.T :: cellsS l
theorem cellsS_length (l : List Smp) : (cellsS l).length = l.length * 3 := by
  induction l with
  | nil => rfl
  | cons s l ih => simp only [cellsS, List.length_cons, ih]; omega
theorem cellsS_get (l : List Smp) (i : Nat) (h : i < l.length) : (cellsS l)[i * 3]? = some (.int .i64 (nth l i).X) ∧ (cellsS l)[i * 3 + 1]? = some (.int .i64 (nth l i).Y) ∧ (cellsS l)[i * 3 + 2]? = some (.int .i64 (nth l i).T) := by
  induction l generalizing i with
  | nil => cases h
  | cons s l ih =>
    cases i with
    | zero => exact ⟨rfl, rfl, rfl⟩
    | succ i =>
      have := ih i (by simpa using h)
      rw [show (i + 1) * 3 = i * 3 + 3 by omega]
      exact this
theorem cellsS_one (l : List Smp) : ∀ u ∈ cellsS l, u.oneCell' = true := by
  induction l with
  | nil => intro u hu; cases hu
  | cons s l ih =>
    intro u hu
    simp only [cellsS, List.mem_cons] at hu
    rcases hu with rfl | rfl | rfl | hu
    · rfl
    · rfl
    · rfl
    · exact ih u hu
/-- cells of a slice's row, from their places -/
theorem cellsS_at {w : World} {b off : Nat} {l : List Smp} (h : SsAt w b off l) : ∀ j u, (cellsS l)[j]? = some u → w.cell? ((⟨b, off, none⟩ : Addr).add j) = some u := by
  intro j u hu
  have hj : j < l.length * 3 := by rw [← cellsS_length]; exact (List.getElem?_eq_some_iff.1 hu).1
  rw [Addr.add_lit]
  have hi : j / 3 < l.length := by omega
  have h1 := h (j / 3) hi
  have h2 := cellsS_get l (j / 3) hi
  have : j = j / 3 * 3 ∨ j = j / 3 * 3 + 1 ∨ j = j / 3 * 3 + 2 := by omega
  rcases this with e | e | e
  · rw [e, h2.1] at hu; rw [e]; rw [← hu]; exact h1.1
  · rw [e, h2.2.1] at hu; rw [e]; rw [← hu]; exact h1.2.1
  · rw [e, h2.2.2] at hu; rw [e]; rw [← hu]; exact h1.2.2
/-- an owned row of samples reads as them -/
theorem ownS_at {w : World} {base : Nat} {e : TypeId} {g cap : Nat} {l : List Smp} (h : w.ownsRow base e 3 (.slice (some ⟨g, 0, none⟩) l.length cap) l.length (cellsS l)) : SsAt w g 0 l := by
  intro i hi
  have h2 := cellsS_get l i hi
  have hc := fun j (hj : j < l.length * 3) => h.cellAt j hj
  refine ⟨?_, ?_, ?_⟩
  · rw [Nat.zero_add, hc _ (by omega)]; exact h2.1
  · rw [Nat.zero_add, hc _ (by omega)]; exact h2.2.1
  · rw [Nat.zero_add, hc _ (by omega)]; exact h2.2.2
theorem infoS : (Try.prog.info? 24).map (fun i => (i.zero, i.size, i.bytes)) = some (some (.agg #[.int .i64 0, .int .i64 0, .int .i64 0]), 3, 24) := by kernel_rfl

set_option maxHeartbeats 400000 in
theorem clone_ss (b off cap : Nat) (l : List Smp) (w : World) (hpos : 0 < l.length) (hl : l.length ≤ 1000) (hs : SsAt w b off l) :
    Calls Try.prog 52 #[.slice (some ⟨b, off, none⟩) l.length cap] w fun e w' =>
      ∃ g c, e = .returned (.slice (some ⟨g, 0, none⟩) l.length c) ∧ Ext w w' ∧ w'.ownsRow w.heap.size 24 3 (.slice (some ⟨g, 0, none⟩) l.length c) l.length (cellsS l) := by
  have hcl := Lib.hid (cellsS_length l)
  have hat := Lib.hid (cellsS_at hs)
  have h1 := Lib.hid (cellsS_one l)
  have hb := hs.lt hpos
  have hnil := fun w' => Lib.run_eql_slice_nil (P := Try.prog) w' 57 24 (some ⟨b, off, none⟩) l.length cap 0 0 Try.underlying57
  go_enter Try.func52, Try.ntmps52
  go_wp2_with (at_builtin; refine wpList_append_copy w _ _ 57 24 _ 3 24 infoS Try.underlying57 rfl (by decide) ⟨b, off, none⟩ l.length cap (cellsS l) hcl.out hat.out hb h1.out (by unfold maxLen; omega) (by omega) rfl rfl rfl rfl ?_; intro g c w1 hown he)
  go_ret
  exact ⟨g, c, rfl, he, hown⟩

theorem infoT : (Try.prog.info? 64).map (fun i => (i.zero, i.size, i.bytes)) = some (some (.agg #[.int .i64 0, .int .i64 0, .int .i64 0, .int .i64 0, .slice none 0 0]), 5, 56) := by kernel_rfl
set_option maxHeartbeats 400000 in
theorem clone_ts (b off cap n : Nat) (news : List Value) (w : World) (hpos : 0 < n) (hl : n ≤ 1000) (hlen : news.length = n * 5) (hat : ∀ j u, news[j]? = some u → w.cell? ((⟨b, off, none⟩ : Addr).add j) = some u) (hone : ∀ u ∈ news, u.oneCell' = true) (hb : b < w.heap.size) :
    Calls Try.prog 51 #[.slice (some ⟨b, off, none⟩) n cap] w fun e w' =>
      ∃ g c, e = .returned (.slice (some ⟨g, 0, none⟩) n c) ∧ Ext w w' ∧ w'.ownsRow w.heap.size 64 5 (.slice (some ⟨g, 0, none⟩) n c) n news := by
  replace hlen := Lib.hid hlen
  replace hat := Lib.hid hat
  replace hone := Lib.hid hone
  have hnil := fun w' => Lib.run_eql_slice_nil (P := Try.prog) w' 22 64 (some ⟨b, off, none⟩) n cap 0 0 Try.underlying22
  go_enter Try.func51, Try.ntmps51
  go_wp2_with (at_builtin; refine wpList_append_copy w _ _ 22 64 _ 5 56 infoT Try.underlying22 rfl (by decide) ⟨b, off, none⟩ n cap news hlen.out hat.out hb hone.out (by unfold maxLen; omega) (by omega) rfl rfl rfl rfl ?_; intro g c w1 hown he)
  go_ret
  exact ⟨g, c, rfl, he, hown⟩
set_option maxHeartbeats 400000 in
theorem clone_t0 (a : Option Addr) (cap : Nat) (w : World) :
    Calls Try.prog 51 #[.slice a 0 cap] w fun e w' =>
      ∃ v, e = .returned v ∧ Ext w w' ∧ ((v = .slice none 0 0) ∨ ∃ g, v = .slice (some ⟨g, 0, none⟩) 0 0 ∧ w'.ownsRow w.heap.size 64 5 v 0 []) := by
  have hnil := fun w' => Lib.run_eql_slice_nil (P := Try.prog) w' 22 64 a 0 cap 0 0 Try.underlying22
  cases a with
  | none =>
    go_enter Try.func51, Try.ntmps51
    go_wp2
    go_ret
    refine ⟨_, rfl, ?_, .inl rfl⟩
    (repeat (first | exact Ext.refl _ | assumption | refine Ext.alloc ?_ _ | refine Ext.ext ?_ _ | refine Ext.drew ?_))
  | some p =>
    go_enter Try.func51, Try.ntmps51
    go_wp2
    go_ret
    refine ⟨_, rfl, ?_, .inr ⟨w.heap.size, rfl, ?_⟩⟩
    · (repeat (first | exact Ext.refl _ | assumption | refine Ext.alloc ?_ _ | refine Ext.ext ?_ _ | refine Ext.drew ?_))
    · exact World.ownsRow_made w #[] 0 (Nat.le_refl _) (by decide) rfl
end Go.Proofs.Ytendgmnbnnkpnaa.G
