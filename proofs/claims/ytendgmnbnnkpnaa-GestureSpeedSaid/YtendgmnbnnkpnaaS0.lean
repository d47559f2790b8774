/- GestureSpeed: the plain law of a steady movement. -/
import Derived.Test.YtendgmnbnnkpnaaG0
import Derived.WalkKit
import Derived.WalkSpells
import Derived.WalkLawsBesides
import Derived.Deep.QuietTactic
import Derived.BigQuiet
import Derived.BigRegion
import Derived.Lib.Hide
import Derived.Deep.RegionWith
set_option linter.unusedSimpArgs false
set_option linter.unusedVariables false
namespace Go.Proofs.Ytendgmnbnnkpnaa.G
def std (v : Int) (k : Nat) : List Smp := (List.range k).map fun (i : Nat) => ⟨v * (i : Int), -(i : Int), 10 * (i : Int)⟩
theorem std_len (v : Int) (k : Nat) : (std v k).length = k := by simp [std]
theorem std_succ (v : Int) (k : Nat) : std v (k + 1) = std v k ++ [⟨v * (k : Int), -(k : Int), 10 * (k : Int)⟩] := by simp [std, List.range_succ]
theorem std_get (v : Int) (k i : Nat) (h : i < k) : nth (std v k) i = ⟨v * (i : Int), -(i : Int), 10 * (i : Int)⟩ := by
  rw [nth_eq _ _ (by rw [std_len]; exact h)]; simp [std]
theorem vel_std (v : Int) (hv : -128 ≤ v ∧ v ≤ 127) (k : Nat) (h2 : 2 ≤ k) (h8 : k ≤ 8) : vel (std v k) = (100 * v, -100) := by
  have hok : velOk (std v k) = true := by
    unfold velOk
    rw [List.all_eq_true]
    intro i hi
    rw [List.mem_range, std_len] at hi
    unfold good
    rw [std_get v k i hi]
    have hp : placed ⟨v * (i : Int), -(i : Int), 10 * (i : Int)⟩ = true := by
      have hi7 : (i : Int) ≤ 7 := by omega
      have h1 : v * (i : Int) ≤ 127 * 7 := by
        rcases (show i = 0 ∨ i = 1 ∨ i = 2 ∨ i = 3 ∨ i = 4 ∨ i = 5 ∨ i = 6 ∨ i = 7 by omega) with rfl | rfl | rfl | rfl | rfl | rfl | rfl | rfl <;> simp <;> omega
      have h1 : -128 * 7 ≤ v * (i : Int) := by
        rcases (show i = 0 ∨ i = 1 ∨ i = 2 ∨ i = 3 ∨ i = 4 ∨ i = 5 ∨ i = 6 ∨ i = 7 by omega) with rfl | rfl | rfl | rfl | rfl | rfl | rfl | rfl <;> simp <;> omega
      simp [placed, btw] <;> omega
    rw [hp]
    by_cases h0 : i = 0
    · simp [h0]
    · rw [std_get v k (i - 1) (by omega)]
      simp [h0] <;> omega
  obtain ⟨j, rfl⟩ : ∃ j, k = j + 1 := ⟨k - 1, by omega⟩
  have hl : (std v (j + 1)).getLast? = some ⟨v * (j : Int), -(j : Int), 10 * (j : Int)⟩ := by rw [std_succ]; simp
  have hf : (std v (j + 1)).find? (fun s => decide (10 * (j : Int) - 100 ≤ s.T)) = some ⟨0, 0, 0⟩ := by
    have : std v (j + 1) = ⟨0, 0, 0⟩ :: ((List.range j).map fun (i : Nat) => ⟨v * ((i + 1 : Nat) : Int), -((i + 1 : Nat) : Int), 10 * ((i + 1 : Nat) : Int)⟩) := by
      simp [std, List.range_succ_eq_map]
    rw [this, List.find?_cons_of_pos (by simp; omega)]
  unfold vel
  rw [hl]
  simp only [hok, if_true, hf, Option.getD_some, fl]
  have hj : (10 * (j : Int)) ≠ 0 := by omega
  have e1 : 1000 * (v * (j : Int) - 0) = (100 * v) * (10 * (j : Int) - 0) := by
    simp only [Int.sub_zero]
    rw [← Int.mul_assoc, ← Int.mul_assoc]
    congr 1; omega
  have e2 : 1000 * (-(j : Int) - 0) = (-100) * (10 * (j : Int) - 0) := by omega
  rw [e1, e2, Int.mul_ediv_cancel _ (by omega), Int.mul_ediv_cancel _ (by omega)]
end Go.Proofs.Ytendgmnbnnkpnaa.G
