/- ArenaSweeps: plain facts. -/
import Derived.Test.YtcnmljpabmgieaaAr18
namespace Go.Proofs.Ytcnmljpabmgieaa.R
def swA (k : Nat) (L : List Int) : Arn := ⟨k, L, false, -1, [], false, -1, false⟩
/-- the members left: in order, members all, two at least, and all from a member on -/
structure SwL (k i : Nat) (L : List Int) : Prop where
  up : L.Pairwise (· < ·)
  inn : ∀ x, x ∈ L → 0 ≤ x ∧ x < (k : Int)
  two : 2 ≤ L.length
  rest : ∀ j : Nat, i ≤ j → j < k → (j : Int) ∈ L
theorem SwL.valid {k i : Nat} {L : List Int} (h : SwL k i L) (hk : k ≤ 24) : Valid (swA k L) :=
  ⟨by unfold swA; simp only; omega, by unfold swA; simp only; omega, h.up, List.Pairwise.nil, h.inn, fun x hx => absurd hx (by simp [swA]), fun hx => absurd rfl hx, fun hx => absurd rfl hx, fun hx => (by cases hx), fun _ _ => h.two, fun hx => (by cases hx)⟩
theorem SwL.next {k i : Nat} {L : List Int} (h : SwL k i L) : SwL k (i + 1) L := ⟨h.up, h.inn, h.two, fun j h1 h2 => h.rest j (by omega) h2⟩
theorem up_len : ∀ (L : List Int) (lo hi : Int), L.Pairwise (· < ·) → (∀ x, x ∈ L → lo ≤ x ∧ x < hi) → L.length ≤ (hi - lo).toNat
  | [], _, _, _, _ => by simp
  | x :: L, lo, hi, h, hb => by
    rw [List.pairwise_cons] at h
    have h0 := hb x (by simp)
    have := up_len L (x + 1) hi h.2 (fun y hy => ⟨by have := h.1 y hy; omega, (hb y (by simp [hy])).2⟩)
    simp only [List.length_cons]
    omega
theorem SwL.len {k i : Nat} {L : List Int} (h : SwL k i L) : L.length ≤ k := by
  have := up_len L 0 k h.up h.inn
  omega
theorem sw_refuse {k i : Nat} {L : List Int} (h : SwL k i L) (hk : k ≤ 24) {K M : Int} (hK : (K = 3 ∧ M ∈ L) ∨ K = 6) : refuse (swA k L) ⟨K, M⟩ = 0 := by
  have hc := (check_zero _).2 (h.valid hk)
  unfold refuse
  rw [hc]
  rcases hK with ⟨rfl, hM⟩ | rfl
  · have : has (swA k L).Left M = true := (has_iff _ _).2 hM
    simp only [swA] at this
    simp [swA, this]
  · simp [swA]
theorem sw_quit {k i : Nat} {L : List Int} (h : SwL k i L) (hk : k ≤ 24) (hi : i < k) (h3 : 2 < L.length) : step (swA k L) ⟨3, i⟩ = (swA k (without L i), [⟨i, false⟩], 0) := by
  have hr := sw_refuse h hk (K := 3) (M := i) (.inl ⟨rfl, h.rest i (by omega) hi⟩)
  have hl := wo_len h.up (h.rest i (by omega) hi)
  unfold step
  rw [hr]
  have h1 : ¬ (without L i).length = 1 := by omega
  simp only [act, quit, swA, settle]
  simp only [h1]
  simp [without]
theorem SwL.quit {k i : Nat} {L : List Int} (h : SwL k i L) (hi : i < k) (h3 : 2 < L.length) : SwL k (i + 1) (without L i) := by
  have hl := wo_len h.up (h.rest i (by omega) hi)
  exact ⟨without_rising _ h.up, fun x hx => h.inn x (mem_without.1 hx).1, by omega, fun j h1 h2 => mem_without.2 ⟨h.rest j (by omega) h2, by omega⟩⟩
theorem sw_sweep {k i : Nat} {L : List Int} (h : SwL k i L) (hk : k ≤ 24) : step (swA k L) ⟨6, 0⟩ = (⟨k, [], false, -1, [], false, L.headD 0, true⟩, L.map (fun x => ⟨x, x == L.headD 0⟩), 0) := by
  have hr := sw_refuse h hk (K := 6) (M := 0) (.inr rfl)
  unfold step
  rw [hr]
  simp [act, swA, settle, decideA]
def sw0 (k : Nat) : List Int := (List.range k).map fun i => (Int.ofNat i)
theorem sw_start0 (k : Nat) (h2 : 2 ≤ k) : SwL k 0 (sw0 k) := by
  refine ⟨?_, ?_, by simp [sw0]; omega, ?_⟩
  · unfold sw0
    rw [List.pairwise_map]
    exact List.pairwise_lt_range.imp (fun h => by simpa using h)
  · intro x hx
    simp only [sw0, List.mem_map, List.mem_range] at hx
    obtain ⟨i, hi, rfl⟩ := hx
    simp only [Int.ofNat_eq_natCast]
    omega
  · intro j _ hj
    simp only [sw0, List.mem_map, List.mem_range]
    exact ⟨j, hj, rfl⟩
theorem sw_start (k : Nat) (h2 : 2 ≤ k) (hk : k ≤ 24) : step (newA k).1 ⟨1, 0⟩ = (swA k (sw0 k), [], 0) := by
  have hnew : (newA k).1 = ⟨k, sw0 k, true, -1, [], false, -1, false⟩ := by
    unfold newA
    rw [if_neg (by omega)]
    simp [sw0]
  have hv := newA_valid k (by omega) (by omega)
  rw [hnew] at hv ⊢
  have hr : refuse ⟨k, sw0 k, true, -1, [], false, -1, false⟩ ⟨1, 0⟩ = 0 := by
    unfold refuse
    rw [(check_zero _).2 hv]
    rfl
  unfold step
  rw [hr]
  have hl : (sw0 k).length = k := by simp [sw0]
  have hc := closed_eq ⟨k, sw0 k, true, -1, [], false, -1, false⟩
  simp only [if_true] at hc
  rw [if_neg (by omega), if_neg (by omega)] at hc
  simp only [act, if_true]
  rw [hc]
  rfl
end Go.Proofs.Ytcnmljpabmgieaa.R
