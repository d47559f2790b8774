/- The evaluator: its environment is the program's. -/
import Derived.Test.YtjefclbjjcglkaaGreatDoorEv20
set_option linter.unusedVariables false
set_option linter.unusedSimpArgs false
namespace Go.Ev
open Go
variable {P : Program} {E : Env}
noncomputable def T.keys {α : Type} : T α → List Nat
  | .e => []
  | .n v a b c d => (match v with | none => [] | some _ => [0]) ++ ((T.keys a).map (fun k => 4 * k + 1) ++ ((T.keys b).map (fun k => 4 * k + 2) ++ ((T.keys c).map (fun k => 4 * k + 3) ++ (T.keys d).map (fun k => 4 * k + 4))))
theorem T.get_keys {α : Type} : ∀ {t : T α} {k : Nat} {v : α}, T.get t k = some v → k ∈ T.keys t
  | .e, k, v, h => by cases h
  | .n w a b c d, 0, v, h => by
    have h : w = some v := h
    subst h
    exact List.mem_append_left _ (List.mem_singleton.2 rfl)
  | .n w a b c d, k + 1, v, h => by
    have h : d4 k (T.get a) (T.get b) (T.get c) (T.get d) (k / 4) = some v := h
    unfold T.keys
    refine List.mem_append_right _ ?_
    have hk : k = 4 * (k / 4) + k % 4 := (Nat.div_add_mod k 4).symm
    have hlt := Nat.mod_lt k (show 0 < 4 by omega)
    rw [d4_eq] at h
    rcases hm : k % 4 with _ | _ | _ | _ | n
    · rw [hm] at h
      exact List.mem_append_left _ (List.mem_map.2 ⟨k / 4, T.get_keys h, by omega⟩)
    · rw [hm] at h
      exact List.mem_append_right _ (List.mem_append_left _ (List.mem_map.2 ⟨k / 4, T.get_keys h, by omega⟩))
    · rw [hm] at h
      exact List.mem_append_right _ (List.mem_append_right _ (List.mem_append_left _ (List.mem_map.2 ⟨k / 4, T.get_keys h, by omega⟩)))
    · rw [hm] at h
      exact List.mem_append_right _ (List.mem_append_right _ (List.mem_append_right _ (List.mem_map.2 ⟨k / 4, T.get_keys h, by omega⟩)))
    · omega
noncomputable def tdB (td : TD) (d : TypeDesc) : Bool := match td, d with
  | .int k, .int k' => sameI k k'
  | .str, .string => true
  | .bool, .bool => true
  | .ptr e, .pointer e' => Nat.beq e e'
  | .slice e, .slice e' => Nat.beq e e'
  | .array n e, .array n' e' => Nat.beq n n' && Nat.beq e e'
  | .struct fs, .struct F => decide (fs = F.toList.map fun f => (f.offset, f.type))
  | .map k e, .map k' e' => Nat.beq k k' && Nat.beq e e'
  | .func, .func _ _ _ => true
  | _, _ => false
noncomputable def zeroB (ti : TI) (z : Value) : Bool := match z with
  | .agg cs => isAgg ti.d && (match ofVs cs.toList with | some l => eqCs l ti.z | none => false)
  | v => !(isAgg ti.d) && (match ofV1 v with | some c => eqCs [c] ti.z | none => false)
noncomputable def tyB (P : Program) (t : TypeId) (ti : TI) : Bool := match P.underlying t, P.info? t with
  | some d, some i => tdB ti.d d && (match i.zero with | some z => zeroB ti z | none => false) && Nat.beq i.size ti.sz && Nat.beq i.bytes ti.by_ && Nat.beq ti.z.length ti.sz && (match d with | .struct F => F.toList.all fun f => (P.info? f.type).isSome | _ => true)
  | _, _ => false
theorem tyB_spec {t : TypeId} {ti : TI} (h : tyB P t ti = true) : TIok P t ti := by
  unfold tyB at h
  split at h
  · rename_i d i hd hi
    simp only [Bool.and_eq_true] at h
    obtain ⟨⟨⟨⟨⟨h1, h2⟩, h3⟩, h4⟩, h5⟩, h6⟩ := h
    refine ⟨⟨d, hd, ?_⟩, ?_, ?_⟩
    · unfold tdB at h1
      split at h1 <;> rename_i hq <;> (try rw [hq])
      · exact congrArg _ (sameI_spec h1).symm
      · rfl
      · rfl
      · exact congrArg _ (Nat.eq_of_beq_eq_true h1).symm
      · exact congrArg _ (Nat.eq_of_beq_eq_true h1).symm
      · simp only [Bool.and_eq_true] at h1
        rw [Nat.eq_of_beq_eq_true h1.1, Nat.eq_of_beq_eq_true h1.2]; rfl
      · exact ⟨_, rfl, of_decide_eq_true h1⟩
      · simp only [Bool.and_eq_true] at h1
        rw [Nat.eq_of_beq_eq_true h1.1, Nat.eq_of_beq_eq_true h1.2]; rfl
      · exact ⟨_, _, _, rfl⟩
      · cases h1
    · cases hz : i.zero with
      | none => rw [hz] at h2; cases h2
      | some z =>
        rw [hz] at h2
        refine ⟨i, z, hi, Nat.eq_of_beq_eq_true h3, Nat.eq_of_beq_eq_true h4, hz, Nat.eq_of_beq_eq_true h5, ?_, ?_⟩
        · intro ha
          dsimp only at h2
          unfold zeroB at h2
          split at h2
          · rename_i cs
            simp only [Bool.and_eq_true] at h2
            obtain ⟨_, h2⟩ := h2
            split at h2
            · rename_i l hl
              exact ⟨cs.toList, by simp, fun φ => by rw [← eqCs_spec h2]; exact ofVs_spec hl φ⟩
            · cases h2
          · rw [ha] at h2
            simp only [Bool.not_true, Bool.false_and, Bool.false_eq_true] at h2
        · intro ha
          dsimp only at h2
          unfold zeroB at h2
          split at h2
          · rw [ha] at h2; simp only [Bool.false_and, Bool.false_eq_true] at h2
          · simp only [Bool.and_eq_true] at h2
            obtain ⟨_, h2⟩ := h2
            split at h2
            · rename_i c hc
              exact ⟨c, (eqCs_spec h2).symm, fun φ => ofV1_spec hc φ⟩
            · cases h2
    · intro F hF f hf
      rw [hd] at hF
      cases hF
      simp only [List.all_eq_true] at h6
      exact h6 f hf
  · cases h
noncomputable def fnB (fs : T Func) : Bool := (T.keys fs).all fun k => match T.get fs k with | some fn => !(fn.name == "runtime.NumGoroutine") | none => true
noncomputable def tysB (P : Program) (ty : T TI) : Bool := (T.keys ty).all fun k => match T.get ty k with | some ti => tyB P k ti | none => true
theorem eok_of {fs : T Func} {ty : T TI} {lv : T (T Nat)} {rg : T (T (List (Nat × List Nat)))} {sm : T (List Sm)} (h1 : (T.keys fs).map (T.get fs) = (T.keys fs).map (fun k => P.funcs[k]?)) (h2 : fnB fs = true) (h3 : tysB P ty = true) (h4 : P.follows .mixedOrders = true) (h5 : ∀ f l s, T.get sm f = some l → s ∈ l → SmOK P f s) : EOk P ⟨fs, ty, lv, rg, sm⟩ := by
  refine ⟨fun t ti ht => ?_, fun f fn hf => ⟨?_, ?_⟩, h4, h5⟩
  · have := List.all_eq_true.1 h3 t (T.get_keys ht)
    simp only [show T.get ty t = some ti from ht] at this
    exact tyB_spec this
  · rw [← List.map_inj_left.1 h1 f (T.get_keys hf)]; exact hf
  · have := List.all_eq_true.1 h2 f (T.get_keys hf)
    simp only [show T.get fs f = some fn from hf] at this
    simpa using this
end Go.Ev
