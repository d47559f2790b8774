/- The evaluator: a run of a drawn region in one order is a chain; drawn regions. -/
import Derived.Test.YtjefclbjjcglkaaGreatDoorEv17
set_option linter.unusedVariables false
set_option linter.unusedSimpArgs false
namespace Go.Ev
open Go
variable {R : Type} {P : Program} {E : Env} {r : R}
/-! ### the run of the hinted order -/
theorem freshK_spec : ∀ {hs : List (T AO)} {n : Nat} {X : Option R}, freshK hs n X = some r → X = some r ∧ ∀ t, t ∈ hs → T.get t n = none
  | [], n, X, h => ⟨h, fun t ht => absurd ht (by simp)⟩
  | t :: hs, n, X, h => by
    have h' : (@Option.rec AO (fun _ => Option R → Option R) (fun X => X) (fun _ _ => none) (T.get t n)) (freshK hs n X) = some r := h
    cases ht : T.get t n with
    | none =>
      rw [ht] at h'
      obtain ⟨h1, h2⟩ := freshK_spec h'
      exact ⟨h1, fun u hu => by rcases List.mem_cons.1 hu with rfl | hu; exact ht; exact h2 u hu⟩
    | some o => rw [ht] at h'; cases h'
theorem chgK_spec {k : Nat} {h : H} {hs : List (T AO)} {K : List (T AO) → Option R} (h1 : chgK k h hs K = some r) : ∃ hs', K hs' = some r ∧ (∀ t, t ∈ hs → t ∈ hs') ∧ (k ≠ 0 → k ≠ 1 → h.t ∈ hs') ∧ (k = 2 → h.t.get h.nx = none ∧ ∀ t, t ∈ hs → T.get t h.nx = none) := by
  obtain ⟨nx, t⟩ := h
  match k, h1 with
  | 0, h1 => exact ⟨hs, h1, fun t ht => ht, fun h => absurd rfl h, fun h => by cases h⟩
  | 1, h1 => exact ⟨hs, h1, fun t ht => ht, fun _ h => absurd rfl h, fun h => by cases h⟩
  | 2, h1 =>
    obtain ⟨h2, h3⟩ := freshK_spec (show freshK (t :: hs) nx (K (t :: hs)) = some r from h1)
    exact ⟨t :: hs, h2, fun u hu => List.mem_cons_of_mem _ hu, fun _ _ => List.mem_cons_self .., fun _ => ⟨h3 t (List.mem_cons_self ..), fun u hu => h3 u (List.mem_cons_of_mem _ hu)⟩⟩
  | k + 3, h1 => exact ⟨t :: hs, h1, fun u hu => List.mem_cons_of_mem _ hu, fun _ _ => List.mem_cons_self .., fun h => by omega⟩
theorem wantF_spec {ops : Array Oper} {tm : TM} {o : Oper} {K : Bool → Option R} (h1 : wantK ops.toList tm o.guard K = some r) : ∃ w, K w = some r ∧ Wn ops o tm.get w := by
  obtain ⟨w, h2, h3⟩ := wantK_spec h1
  refine ⟨w, h2, fun φ ts hr => h3 φ ts fun j q d x hg hj hx => hr d x ?_ hx⟩
  obtain ⟨oj, hoj, hd⟩ := hj
  unfold looks
  refine List.mem_append_right _ ?_
  rw [hg]
  show d ∈ ((getL ops.toList j).bind (·.dst)).toList
  rw [getL_eq, Array.getElem?_toList, hoj]
  simp [hd]
theorem againK_spec (hE : EOk P E) {ops : Array Oper} : ∀ {cs : List Nat} {vs : List (Nat × Option AV)} {tm : TM} {h : H} {X : Option R}, againK E ops.toList cs vs tm h X = some r → X = some r ∧ ∀ j, j ∈ cs → ∀ v, lookV vs j = some (some v) → ∀ o, ops[j]? = some o → opKind o.op = 1 → Fa ops o tm.get fun tm => OpR P o tm h.t.get v
  | [], vs, tm, h, X, h1 => ⟨h1, fun j hj => absurd hj (by simp)⟩
  | i :: cs, vs, tm, h, X, h1 => by
    obtain ⟨ov, hov, h2⟩ := ob_some (show ob (lookV vs i) _ = some r from h1)
    cases ov with
    | none =>
      obtain ⟨h3, h4⟩ := againK_spec hE (show againK E ops.toList cs vs tm h X = some r from h2)
      refine ⟨h3, fun j hj v hv o ho hk => ?_⟩
      rcases List.mem_cons.1 hj with rfl | hj
      · rw [hov] at hv; cases hv
      · exact h4 j hj v hv o ho hk
    | some v =>
      obtain ⟨o, ho, h3⟩ := ob_some (show ob (getL ops.toList i) _ = some r from h2)
      rw [getL_eq, Array.getElem?_toList] at ho
      obtain ⟨w, h4, hw⟩ := wantF_spec (ops := ops) h3
      cases w with
      | false => cases h4
      | true =>
        have h5 : opK o.op E tm h (fun _ _ _ => none) (fun v' _ => bf (eqV v' v) (againK E ops.toList cs vs tm h X) none) = some r := h4
        have hk1 : opKind o.op = 1 → Fa ops o tm.get fun tm => OpR P o tm h.t.get v := by
          intro hk
          obtain ⟨v', q1, q2⟩ := kind1_s (o := o) hE hk h5
          obtain ⟨q3, q4⟩ := bf_some q1
          rw [eqV_spec q3] at q2
          exact ⟨no_defer h5, hw, tm, fun _ _ => rfl, q2⟩
        have hX : againK E ops.toList cs vs tm h X = some r := by
          have hc : CallOK P (fun _ _ _ => none : Caller R) := fun a h K r h => by cases h
          obtain ⟨v', h', N, q1, _⟩ := opK_s hE hc h5
          exact (bf_some q1).2
        obtain ⟨h6, h7⟩ := againK_spec hE hX
        refine ⟨h6, fun j hj v' hv o' ho' hk => ?_⟩
        rcases List.mem_cons.1 hj with rfl | hj
        · rw [hov] at hv; cases hv
          rw [ho] at ho'; cases ho'
          exact hk1 hk
        · exact h7 j hj v' hv o' ho' hk
end Go.Ev
