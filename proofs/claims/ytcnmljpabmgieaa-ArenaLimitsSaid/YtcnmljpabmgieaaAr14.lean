/- ArenaLimits: plain facts. -/
import Derived.Test.YtcnmljpabmgieaaAr0
namespace Go.Proofs.Ytcnmljpabmgieaa.R
def qf (k i : Nat) : Arn := if i + 1 < k then ⟨k, (List.range' i (k - i)).map Int.ofNat, false, -1, [], false, -1, false⟩ else ⟨k, [], false, -1, [], false, (k : Int) - 1, true⟩
theorem qf_step23 (i : Nat) (h : i + 1 < 23) : ∃ vs, step (qf 23 i) ⟨3, i⟩ = (qf 23 (i + 1), vs, 0) := by
  rcases (show i = 0 ∨ i = 1 ∨ i = 2 ∨ i = 3 ∨ i = 4 ∨ i = 5 ∨ i = 6 ∨ i = 7 ∨ i = 8 ∨ i = 9 ∨ i = 10 ∨ i = 11 ∨ i = 12 ∨ i = 13 ∨ i = 14 ∨ i = 15 ∨ i = 16 ∨ i = 17 ∨ i = 18 ∨ i = 19 ∨ i = 20 ∨ i = 21 by omega) with rfl | rfl | rfl | rfl | rfl | rfl | rfl | rfl | rfl | rfl | rfl | rfl | rfl | rfl | rfl | rfl | rfl | rfl | rfl | rfl | rfl | rfl
  all_goals exact ⟨_, rfl⟩
theorem qf_step24 (i : Nat) (h : i + 1 < 24) : ∃ vs, step (qf 24 i) ⟨3, i⟩ = (qf 24 (i + 1), vs, 0) := by
  rcases (show i = 0 ∨ i = 1 ∨ i = 2 ∨ i = 3 ∨ i = 4 ∨ i = 5 ∨ i = 6 ∨ i = 7 ∨ i = 8 ∨ i = 9 ∨ i = 10 ∨ i = 11 ∨ i = 12 ∨ i = 13 ∨ i = 14 ∨ i = 15 ∨ i = 16 ∨ i = 17 ∨ i = 18 ∨ i = 19 ∨ i = 20 ∨ i = 21 ∨ i = 22 by omega) with rfl | rfl | rfl | rfl | rfl | rfl | rfl | rfl | rfl | rfl | rfl | rfl | rfl | rfl | rfl | rfl | rfl | rfl | rfl | rfl | rfl | rfl | rfl
  all_goals exact ⟨_, rfl⟩
theorem qf_start23 : ∃ vs, step (newA 23).1 ⟨1, 0⟩ = (qf 23 0, vs, 0) := ⟨_, rfl⟩
theorem qf_start24 : ∃ vs, step (newA 24).1 ⟨1, 0⟩ = (qf 24 0, vs, 0) := ⟨_, rfl⟩
theorem qf_len (k i : Nat) : (qf k i).Left.length ≤ k ∧ (qf k i).Holds.length = 0 := by
  unfold qf
  split
  · simp
  · simp
end Go.Proofs.Ytcnmljpabmgieaa.R
