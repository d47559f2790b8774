/- ArenaEnds: plain facts. -/
import Derived.Test.YtcnmljpabmgieaaAr22
namespace Go.Proofs.Ytcnmljpabmgieaa.R
def closedOr (a : Arn) : Prop := a.Done = true ∨ a.Open = false
def sweptOr (a : Arn) : Prop := a.Done = true ∨ a.Swept = true
theorem decideA_done (a : Arn) (m : Int) : (decideA a m).1.Done = true ∧ (decideA a m).1.Holds = [] := ⟨rfl, rfl⟩
theorem refuse_eq {a : Arn} (h : Valid a) (K M : Int) (hk : 1 ≤ K ∧ K ≤ 6) (hd : a.Done = false) : refuse a ⟨K, M⟩ = (if K = 2 ∨ K = 3 ∨ K = 4 then (if has a.Left M then 0 else 7) else if K = 5 then (if has a.Holds M then 0 else 7) else if K = 1 then (if a.Open then 0 else 10) else (if a.Open then 10 else 0)) := by
  unfold refuse
  rw [(check_zero a).2 h]
  simp only [beq_self_eq_true, Bool.not_true, Bool.false_eq_true, if_false]
  rw [if_neg (by simp; omega), hd]
  simp
/-- the first of the closing events -/
theorem ends_close {a : Arn} (h : Valid a) : ((step a ⟨1, 0⟩).2.2 = 0 → closedOr (step a ⟨1, 0⟩).1) ∧ ((step a ⟨1, 0⟩).2.2 ≠ 0 → closedOr a) := by
  rcases step_cases a ⟨1, 0⟩ with ⟨c1, c2, c3⟩ | ⟨c1, c2, c3⟩
  · refine ⟨fun h0 => absurd h0 c1, fun _ => ?_⟩
    rcases hd : a.Done with _ | _
    · refine .inr ?_
      rcases ho : a.Open with _ | _
      · rfl
      · exfalso
        have := refuse_eq h 1 0 (by omega) hd
        rw [ho] at this
        simp at this
        apply c1
        unfold step
        rw [this]
        rfl
    · exact .inl hd
  · refine ⟨fun _ => ?_, fun h0 => absurd c2 h0⟩
    have hs : (step a ⟨1, 0⟩).1 = (act a ⟨1, 0⟩).1 := by
      unfold step
      rw [c1]
      rfl
    rw [hs]
    unfold act
    simp only [if_true]
    rw [closed_eq]
    split
    · split
      · exact .inl rfl
      · split
        · exact .inl rfl
        · exact .inr rfl
    · exact .inl rfl
/-- the second -/
theorem ends_sweep {a : Arn} (h : Valid a) (hc : closedOr a) : ((step a ⟨6, 0⟩).2.2 = 0 → sweptOr (step a ⟨6, 0⟩).1) ∧ ((step a ⟨6, 0⟩).2.2 ≠ 0 → sweptOr a) := by
  rcases step_cases a ⟨6, 0⟩ with ⟨c1, c2, c3⟩ | ⟨c1, c2, c3⟩
  · refine ⟨fun h0 => absurd h0 c1, fun _ => ?_⟩
    rcases hd : a.Done with _ | _
    · exfalso
      have ho : a.Open = false := hc.resolve_left (by rw [hd]; decide)
      have := refuse_eq h 6 0 (by omega) hd
      rw [ho] at this
      simp at this
      apply c1
      unfold step
      rw [this]
      rfl
    · exact .inl hd
  · refine ⟨fun _ => ?_, fun h0 => absurd c2 h0⟩
    have hs : (step a ⟨6, 0⟩).1 = (act a ⟨6, 0⟩).1 := by
      unfold step
      rw [c1]
      rfl
    rw [hs]
    have ha : act a ⟨6, 0⟩ = settle { a with Swept := true } := by simp [act]
    rw [ha]
    unfold settle
    split
    · exact .inl rfl
    · exact .inr rfl
/-- a member that holds the arena releases it or quits -/
theorem ends_step {a : Arn} (h : Valid a) (hs : sweptOr a) {K M : Int} (hK : K = 5 ∨ K = 3) (hM : M ∈ a.Holds) : (step a ⟨K, M⟩).2.2 = 0 ∧ Valid (step a ⟨K, M⟩).1 ∧ sweptOr (step a ⟨K, M⟩).1 ∧ (step a ⟨K, M⟩).1.Holds.length < a.Holds.length := by
  have hd : a.Done = false := by
    rcases hd : a.Done with _ | _
    · rfl
    · have := (h.done hd).2.2.2
      rw [this] at hM
      cases hM
  have hsw : a.Swept = true := hs.resolve_left (by rw [hd]; decide)
  have hr : refuse a ⟨K, M⟩ = 0 := by
    rw [refuse_eq h K M (by omega) hd]
    rcases hK with rfl | rfl
    · simp [(has_iff _ _).2 hM]
    · simp [(has_iff _ _).2 (h.inh _ hM)]
  have hst : step a ⟨K, M⟩ = ((act a ⟨K, M⟩).1, (act a ⟨K, M⟩).2, 0) := by
    unfold step
    simp [hr]
  have hl := wo_len h.holds hM
  rw [hst]
  refine ⟨rfl, (step_left hr).valid, ?_⟩
  have hset : ∀ b : Arn, b.Swept = true → b.Holds = without a.Holds M → sweptOr (settle b).1 ∧ (settle b).1.Holds.length < a.Holds.length := by
    intro b h1 h2
    unfold settle
    split
    · exact ⟨.inl rfl, by simp [decideA]; omega⟩
    · exact ⟨.inr h1, by simp only [h2]; omega⟩
  rcases hK with rfl | rfl
  · have ha : act a ⟨5, M⟩ = settle { a with Holds := without a.Holds M } := by simp [act]
    simp only [ha]
    exact hset _ hsw rfl
  · have ha : act a ⟨3, M⟩ = quit a M := by simp [act]
    simp only [ha]
    unfold quit
    simp only
    split
    · exact ⟨.inr hsw, by simp only; omega⟩
    · split
      · exact ⟨.inl rfl, by simp [decideA]; omega⟩
      · exact hset _ hsw rfl
theorem ends_done {a : Arn} (h : Valid a) (hs : sweptOr a) (h0 : a.Holds.length = 0) : a.Done = true := by
  rcases hs with hs | hs
  · exact hs
  · exact absurd (List.length_eq_zero_iff.1 h0) (h.swept hs).2
end Go.Proofs.Ytcnmljpabmgieaa.R
