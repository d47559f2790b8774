/- Each recogniser that Feed, Win and Abort hand back is sound again. Plain: an idle recogniser follows no touch. -/
import Derived.Test.YtendgmnbnnkpnaaUP
import Derived.WalkKit
import Derived.WalkSpells
import Derived.WalkLawsBesides
import Derived.Deep.QuietTactic
import Derived.BigQuiet
import Derived.BigRegion
import Derived.Lib.Hide
import Derived.Deep.RegionWith
set_option linter.unusedSimpArgs false
set_option linter.unusedVariables false
namespace Go.Proofs.Ytendgmnbnnkpnaa.G
theorem over_ok {r : Rec} (h : ROk r) : ROk (over r) :=
  ⟨h.kind, h.node, by simp [over], h.count, h.last, by simp [over], by simp [over], by simp [over], by simp [over]⟩
theorem fail_ok {r : Rec} (h : ROk r) : ROk (fail r).1 := over_ok h
theorem ROk.noTs {r : Rec} (h : ROk r) (hc : cont r.Kind = false) : ROk { r with Ts := [] } :=
  ⟨h.kind, h.node, h.state, h.count, h.last, by simp, by simp, by simp, by simp [hc]⟩
theorem late_ok {r : Rec} {e : Ev} (h : ROk r) (hv : valid e = true) {q : Rec × Int × List Ges} (hq : lateM r e = some q) : ROk q.1 := by
  have ht0 : 0 ≤ e.Time ∧ e.Time ≤ 1099511627776 := by
    by_cases h5 : e.Kind = 5 <;> simp [valid, h5, placed, btw] at hv <;> omega
  unfold lateM at hq
  split at hq
  · split at hq
    · split at hq
      · simp only [Option.some.injEq] at hq; subst hq; exact fail_ok h
      · cases hq
    · split at hq
      · simp only [Option.some.injEq] at hq; subst hq; exact fail_ok h
      · cases hq
  · split at hq
    · rename_i h3
      split at hq
      · rename_i t ts ht
        split at hq
        · cases hq
        · simp only [Option.some.injEq] at hq
          subst hq
          have hf := (h.ts t (by rw [ht]; simp)).f
          refine succeed_ok h ?_ (by simp [cont, btw, h3])
          simp [placed, btw] at hf ⊢
          omega
      · cases hq
    · cases hq
theorem begin_ok {r : Rec} {e : Ev} (h : ROk r) (hp : placed (smp e) = true) (hid : btw e.ID 1 1000 = true) (h4 : r.State ≠ 4) : ROk (beginR r e) := by
  unfold beginR
  split
  · exact h
  · rename_i hl
    have new : TOk ⟨e.ID, smp e, [smp e]⟩ := ⟨hp, hid, by simp, by simp, by simp [hp]⟩
    have hst : (if r.State = 0 then 1 else r.State) ≠ 4 := by split <;> omega
    have hs1 := h.state
    have hs2 : 0 ≤ (if r.State = 0 then 1 else r.State) ∧ (if r.State = 0 then 1 else r.State) ≤ 4 := by split <;> omega
    have hsu : cont r.Kind = true → ((if r.State = 0 then 1 else r.State) = 2 ∨ ((if r.State = 0 then 1 else r.State) = 3 ∧ r.Count = 1)) → r.Ts.length = room r.Kind := fun hc hh => by
      refine h.sure hc ?_
      by_cases h0 : r.State = 0
      · simp [h0] at hh
      · simpa [h0] using hh
    rcases h.shape with hs | ⟨t, hs, h1⟩ | ⟨t, u, hs, h1, h2, h7⟩
    · have hroom : 0 < room r.Kind := by unfold room; split <;> decide
      refine ⟨h.kind, h.node, hs2, h.count, h.last, ?_, ?_, fun hh => absurd hh hst, fun hc hh => ?_⟩
      · simp only [hs]; simp; omega
      · intro t ht
        simp only [hs, List.nil_append, List.mem_singleton] at ht
        subst ht; exact new
      · have := hsu hc hh
        rw [hs] at this; simp at this; omega
    · have hroom : 2 ≤ room r.Kind := by rw [hs] at hl; simp at hl; omega
      have hl' : TOk ⟨t.ID, latest t, [latest t]⟩ := ⟨latest_placed h1, h1.id, by simp, by simp, by simp [latest_placed h1]⟩
      refine ⟨h.kind, h.node, hs2, h.count, h.last, ?_, ?_, fun hh => absurd hh hst, fun hc hh => ?_⟩
      · simp only [hs]; simpa using hroom
      · intro x hx
        simp only [hs, List.cons_append, List.nil_append, List.mem_cons, List.not_mem_nil, or_false] at hx
        rcases hx with rfl | rfl
        · exact hl'
        · exact new
      · have := hsu hc hh
        rw [hs] at this; simp at this; omega
    · rw [hs, h7] at hl; simp [room] at hl
theorem down_ok {r : Rec} {e : Ev} (h : ROk r) (hp : placed (smp e) = true) (hid : btw e.ID 1 1000 = true) (h4 : r.State ≠ 4) : ROk (down r e).1 := by
  by_cases h1 : r.Kind ≤ 3 ∧ r.Ts ≠ []
  · have : down r e = fail r := by unfold down; rw [if_pos h1]
    rw [this]; exact fail_ok h
  · by_cases h2 : r.Kind = 2 ∧ r.Count = 1 ∧ 8 < dist (smp e) r.L
    · have : down r e = fail r := by unfold down; rw [if_neg h1, if_pos h2]
      rw [this]; exact fail_ok h
    · rw [down_begin r e h1 h2]; exact begin_ok h hp hid h4
theorem still_ok {r : Rec} {e : Ev} (h : ROk r) (hp : placed (smp e) = true) (hk : r.Kind ≤ 3) : ROk (still r e).1 := by
  have hc : cont r.Kind = false := by have := h.kind; simp [cont, btw]; omega
  unfold still
  split
  · exact h
  · split
    · exact fail_ok h
    · split
      · exact h
      · split
        · exact fail_ok h
        · split
          · exact ⟨h.kind, h.node, h.state, by simp, hp, by simp, by simp, by simp, by simp [hc]⟩
          · refine (succeed_ok h hp hc).noTs ?_
            have : ∀ ask, (succeed r (smp e) ask).1.Kind = r.Kind := fun ask => by unfold succeed; split <;> rfl
            rw [this]; exact hc
theorem throw_ok {r : Rec} {e : Ev} (h : ROk r) (hp : placed (smp e) = true) (hk : r.Kind = 8) : ROk (throw_ r e).1 := by
  unfold throw_
  split
  · exact h
  · split
    · exact h
    · simp only
      split
      · exact fail_ok h
      · exact succeed_ok h hp (by simp [cont, btw, hk])
theorem slide_ok {r : Rec} {e : Ev} (h : ROk r) : ROk (slide r e).1 := by
  unfold slide
  simp only
  split
  · split
    · exact over_ok h
    · exact fail_ok h
  · split
    · exact h
    · split
      · split
        · exact fail_ok h
        · split
          · rename_i hc
            have hr := certain_room h hc
            split
            · exact ⟨h.kind, h.node, by simp, h.count, h.last, h.len, h.ts, by simp, fun _ _ => hr⟩
            · exact ⟨h.kind, h.node, h.state, by simp, h.last, h.len, h.ts, h.over, fun _ _ => hr⟩
          · exact h
      · exact h
theorem abort_ok {r : Rec} (h : ROk r) : ROk (abort r).1 := by
  unfold abort; split <;> exact over_ok h
/-- nothing of a movement has begun before the victory -/
def Fresh (r : Rec) : Prop := cont r.Kind = true → r.State ≤ 1 → r.Count = 0
theorem win_ok {r : Rec} (h : ROk r) (hf : Fresh r) : ROk (win r).1 := by
  unfold win
  split
  · rename_i h2
    split
    · rename_i hc
      exact ⟨h.kind, h.node, by simp, by simp, h.last, h.len, h.ts, by simp, fun _ _ => h.sure hc (.inl h2)⟩
    · exact over_ok h
  · split
    · rename_i h01
      refine ⟨h.kind, h.node, by simp, h.count, h.last, h.len, h.ts, by simp, fun hc hh => ?_⟩
      have := hf hc (by omega)
      simp only at hh
      omega
    · exact h
theorem process_ok {r : Rec} {e : Ev} (h : ROk r) (hv : valid e = true) (h4 : r.State ≠ 4) : ROk (process r e).1 := by
  unfold process
  split
  · exact h
  · rename_i h5
    have hp := smp_placed hv h5
    have hid : btw e.ID 1 1000 = true := by
      simp only [valid, if_neg h5, Bool.and_eq_true] at hv
      exact hv.1.2
    split
    · split
      · exact down_ok h hp hid h4
      · exact h
    · split
      · exact h
      · split
        · split
          · exact abort_ok h
          · exact fail_ok h
        · rename_i i _ _ _
          have hf := follow_ok (i := i) h hp
          simp only
          split
          · exact still_ok hf hp (by assumption)
          · split
            · exact throw_ok hf hp (by assumption)
            · exact slide_ok hf
theorem feed_ok {r : Rec} {e : Ev} (h : ROk r) : ROk (feed r e).1 := by
  by_cases hd : (!valid e || deaf r) = true
  · have : feed r e = (r, 0, []) := by simp only [feed, if_pos hd]
    rw [this]; exact h
  · have hd' : (!valid e || deaf r) = false := by simpa using hd
    rw [feed_late r e hd']
    simp only [Bool.or_eq_false_iff, Bool.not_eq_false', deaf, decide_eq_false_iff_not] at hd'
    cases hl : lateM r e with
    | none => exact process_ok h hd'.1 hd'.2.1
    | some q => exact late_ok h hd'.1 hl
theorem fresh_over (r : Rec) : Fresh (over r) := fun _ h => by simp [over] at h
theorem fresh_fail (r : Rec) : Fresh (fail r).1 := fresh_over r
theorem fresh_win {r : Rec} (h : Fresh r) : Fresh (win r).1 := by
  unfold win
  split
  · split
    · intro _ h; simp at h
    · exact fresh_over r
  · split
    · intro _ h; simp at h
    · exact h
theorem fresh_abort (r : Rec) : Fresh (abort r).1 := by
  unfold abort; split <;> exact fresh_over r
theorem fresh_not {r : Rec} (hc : cont r.Kind = false) : Fresh r := fun h => by rw [hc] at h; cases h
theorem down_kind (r : Rec) (e : Ev) : (down r e).1.Kind = r.Kind := by
  unfold down; split
  · rfl
  · split
    · rfl
    · split <;> rfl
theorem fresh_down {r : Rec} {e : Ev} (h : Fresh r) : Fresh (down r e).1 := by
  unfold down; split
  · exact fresh_fail r
  · split
    · exact fresh_fail r
    · split
      · exact h
      · intro hc hs
        simp only at hs hc ⊢
        refine h hc ?_
        by_cases h0 : r.State = 0
        · omega
        · simpa [h0] using hs
theorem succeed_kind (r : Rec) (s : Smp) (ask : Int) : (succeed r s ask).1.Kind = r.Kind := by unfold succeed; split <;> rfl
theorem still_kind (r : Rec) (e : Ev) : (still r e).1.Kind = r.Kind := by
  unfold still; split
  · rfl
  · split
    · rfl
    · split
      · rfl
      · split
        · rfl
        · split
          · rfl
          · exact succeed_kind _ _ _
theorem throw_kind (r : Rec) (e : Ev) : (throw_ r e).1.Kind = r.Kind := by
  unfold throw_; split
  · rfl
  · split
    · rfl
    · simp only
      split
      · rfl
      · exact succeed_kind _ _ _
theorem fresh_slide {r : Rec} {e : Ev} (h : Fresh r) : Fresh (slide r e).1 := by
  unfold slide
  simp only
  split
  · split
    · exact fresh_over r
    · exact fresh_fail r
  · split
    · exact h
    · split
      · rename_i hs
        split
        · exact fresh_fail r
        · split
          · split
            · intro _ h; simp at h
            · intro _ h3; simp only at h3; omega
          · exact h
      · exact h
theorem fresh_process {r : Rec} {e : Ev} (h : Fresh r) (hk : 1 ≤ r.Kind ∧ r.Kind ≤ 8) : Fresh (process r e).1 := by
  unfold process
  split
  · exact h
  · split
    · split
      · exact fresh_down h
      · exact h
    · split
      · exact h
      · split
        · split
          · exact fresh_abort r
          · exact fresh_fail r
        · simp only
          split
          · refine fresh_not ?_
            rw [still_kind]; simp [cont, btw]; omega
          · split
            · refine fresh_not ?_
              rw [throw_kind]; simp [cont, btw]; omega
            · exact fresh_slide h
theorem fresh_feed {r : Rec} {e : Ev} (h : Fresh r) (hk : 1 ≤ r.Kind ∧ r.Kind ≤ 8) : Fresh (feed r e).1 := by
  by_cases hd : (!valid e || deaf r) = true
  · have : feed r e = (r, 0, []) := by simp only [feed, if_pos hd]
    rw [this]; exact h
  · have hd' : (!valid e || deaf r) = false := by simpa using hd
    rw [feed_late r e hd']
    cases hl : lateM r e with
    | none => exact fresh_process h hk
    | some q =>
      simp only [Option.getD_some]
      unfold lateM at hl
      split at hl
      · split at hl <;> split at hl <;> first | (cases hl; done) | (simp only [Option.some.injEq] at hl; subst hl; exact fresh_fail r)
      · split at hl
        · rename_i h3
          split at hl
          · split at hl
            · cases hl
            · simp only [Option.some.injEq] at hl
              subst hl
              refine fresh_not ?_
              rw [succeed_kind]; simp [cont, btw, h3]
          · cases hl
        · cases hl
/-- all that holds of a recogniser between two calls -/
structure Sound (r : Rec) : Prop where
  ok : ROk r
  fresh : Fresh r
theorem Sound.feed {r : Rec} (h : Sound r) (e : Ev) : Sound (feed r e).1 := ⟨feed_ok h.ok, fresh_feed h.fresh h.ok.kind⟩
theorem Sound.win {r : Rec} (h : Sound r) : Sound (win r).1 := ⟨win_ok h.ok h.fresh, fresh_win h.fresh⟩
theorem Sound.abort {r : Rec} (h : Sound r) : Sound (abort r).1 := ⟨abort_ok h.ok, fresh_abort r⟩
theorem Sound.over {r : Rec} (h : Sound r) : Sound (over r) := ⟨over_ok h.ok, fresh_over r⟩
def newR (k n : Int) : Rec := ⟨k, n, 0, 0, [], .zero⟩
theorem newR_sound {k n : Int} (hk : btw k 1 8 = true) (hn : btw n 1 1099511627776 = true) : Sound (newR k n) := by
  simp only [btw, decide_eq_true_eq] at hk hn
  refine ⟨⟨hk, hn, by simp [newR], by simp [newR], by simp [newR, Smp.zero, placed, btw], by simp [newR], by simp [newR], by simp [newR], fun _ h => by simp [newR] at h⟩, fun _ _ => rfl⟩
end Go.Proofs.Ytendgmnbnnkpnaa.G
namespace Go.Proofs.Ytendgmnbnnkpnaa.G
/-- an idle recogniser follows no touch -/
def Idle (r : Rec) : Prop := r.State = 0 → r.Ts = []
theorem idle_over (r : Rec) : Idle (over r) := fun _ => rfl
theorem idle_fail (r : Rec) : Idle (fail r).1 := fun _ => rfl
theorem idle_succeed (r : Rec) (s : Smp) (a : Int) : Idle (succeed r s a).1 := by
  unfold succeed
  split
  · exact idle_over _
  · intro h; simp at h
theorem idle_state {r : Rec} (h : r.State ≠ 0) : Idle r := fun h0 => absurd h0 h
theorem idle_win {r : Rec} (h : Idle r) : Idle (win r).1 := by
  unfold win
  split
  · split
    · exact idle_state (by simp)
    · exact idle_over _
  · split
    · exact idle_state (by simp)
    · exact h
theorem idle_abort (r : Rec) : Idle (abort r).1 := by
  unfold abort; split <;> exact idle_over _
theorem idle_moved {r : Rec} (e : Ev) (h : r.State ≠ 0) : Idle (moved r e).1 := by
  unfold moved
  split
  · unfold still
    split
    · exact idle_state h
    · split
      · exact idle_fail _
      · split
        · exact idle_state h
        · split
          · exact idle_fail _
          · split
            · exact fun _ => rfl
            · exact fun _ => rfl
  · split
    · unfold throw_
      split
      · exact idle_state h
      · split
        · exact idle_state h
        · simp only
          split
          · exact idle_fail _
          · exact idle_succeed _ _ _
    · unfold slide
      simp only
      split
      · split
        · exact idle_over _
        · exact idle_fail _
      · split
        · exact idle_state h
        · split
          · split
            · exact idle_fail _
            · split
              · split
                · exact idle_state (by simp)
                · exact idle_state h
              · exact idle_state h
          · exact idle_state h
theorem idle_process {r : Rec} (hi : Idle r) (e : Ev) : Idle (process r e).1 := by
  by_cases h5 : e.Kind = 5
  · rw [show process r e = (r, 0, []) by simp [process, h5]]; exact hi
  cases hf : find r.Ts e.ID with
  | none =>
    by_cases h1 : e.Kind = 1
    · rw [show process r e = down r e by simp [process, h1, hf]]
      unfold down
      split
      · exact idle_fail _
      · split
        · exact idle_fail _
        · split
          · exact hi
          · refine idle_state ?_
            simp only
            split <;> omega
    · rw [show process r e = (r, 0, []) by simp [process, h5, h1, hf]]; exact hi
  | some i =>
    have hs : r.State ≠ 0 := fun h0 => by rw [hi h0] at hf; simp [find] at hf
    by_cases h1 : e.Kind = 1
    · rw [show process r e = (r, 0, []) by simp [process, h1, hf]]; exact hi
    by_cases h4 : e.Kind = 4
    · rw [show process r e = (if r.State = 3 then ((abort r).1, 0, (abort r).2) else fail r) by simp [process, h4, hf]]
      split
      · exact idle_abort _
      · exact idle_fail _
    · rw [show process r e = moved { r with Ts := follow r.Ts i (smp e) } e by simp only [process, if_neg h5, hf, if_neg h1, if_neg h4, moved]]
      exact idle_moved e hs
theorem idle_feed {r : Rec} (hi : Idle r) (e : Ev) : Idle (feed r e).1 := by
  unfold feed
  split
  · exact hi
  · split
    · split
      · split
        · exact idle_fail _
        · exact idle_process hi e
      · split
        · exact idle_fail _
        · exact idle_process hi e
    · split
      · split
        · split
          · exact idle_process hi e
          · exact idle_succeed _ _ _
        · exact idle_process hi e
      · exact idle_process hi e
theorem idle_new (k n : Int) : Idle (newR k n) := fun _ => rfl
end Go.Proofs.Ytendgmnbnnkpnaa.G
