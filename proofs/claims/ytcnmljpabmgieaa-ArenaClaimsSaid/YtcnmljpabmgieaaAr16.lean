/- ArenaClaims: plain facts. -/
import Derived.Test.YtcnmljpabmgieaaAr0
namespace Go.Proofs.Ytcnmljpabmgieaa.R
def c0 (k : Nat) : Arn := (newA k).1
def c1 (k : Nat) := step (c0 k) ⟨1, 0⟩
def c2 (k p : Nat) := step (c1 k).1 ⟨2, p⟩
def c3 (k p q : Nat) := step (c2 k p).1 ⟨2, q⟩
def o1 (k p : Nat) := step (c0 k) ⟨2, p⟩
def o2 (k p q : Nat) := step (o1 k p).1 ⟨2, q⟩
def o3 (k p q : Nat) := step (o2 k p q).1 ⟨3, p⟩
def o4 (k p q : Nat) := step (o3 k p q).1 ⟨1, 0⟩
def o5 (k p q : Nat) := step (o2 k p q).1 ⟨1, 0⟩
def small (a : Arn) : Bool := decide (a.Left.length ≤ 1000) && decide (a.Holds.length ≤ 1000)
def claimsB (k p q : Nat) : Bool :=
  small (c0 k) && small (c1 k).1 && small (c2 k p).1 && small (o1 k p).1 && small (o2 k p q).1 && small (o3 k p q).1 &&
  ((c2 k p).2.2 == 0) && (c2 k p).1.Done && ((c2 k p).1.Winner == (p : Int)) && ((c3 k p q).2.2 == 12) &&
  ((o1 k p).2.2 == 0) && ((o2 k p q).2.2 == 0) && ((o2 k p q).1.Winner == -1) && ((o2 k p q).1.Eager == (p : Int)) &&
  ((o4 k p q).2.2 == 0) && ((o4 k p q).1.Winner == (if k = 2 then 1 - (p : Int) else -1)) && ((o4 k p q).1.Done == decide (k = 2)) &&
  ((o5 k p q).2.2 == 0) && ((o5 k p q).1.Winner == (p : Int)) && (o5 k p q).1.Done
theorem claims_all : ((List.range 8).all fun i => (List.range (i + 2)).all fun p => (List.range (i + 2)).all fun q => claimsB (i + 2) p q) = true := by decide +kernel
theorem claims_at (r p q : Nat) (hr : r < 8) (hp : p < r + 2) (hq : q < r + 2) : claimsB (r + 2) p q = true := by
  have h := claims_all
  simp only [List.all_eq_true, List.mem_range] at h
  exact h r hr p hp q hq
theorem c0_holds (k : Nat) : (c0 k).Holds = [] := by
  unfold c0 newA
  split <;> rfl
end Go.Proofs.Ytcnmljpabmgieaa.R
