/- The laws over the plain functions: StyleTable. -/
import Derived.Test.YtojkihhnioeggaaDoorGA14
import Derived.Test.YtojkihhnioeggaaDoorBC
import Derived.WalkKit
import Derived.WalkSpells
import Derived.WalkLawsBesides
import Derived.Deep.QuietTactic
import Derived.BigQuiet
import Derived.BigRegion
import Derived.Lib.Hide
import Derived.Deep.RegionWith
set_option linter.unusedSimpArgs false
set_option linter.unusedVariables false
set_option linter.unusedSimpArgs false
set_option linter.unusedVariables false
namespace Go.Proofs.YtojkihhnioeggaaDoor.S
open Go Go.Bm
set_option maxRecDepth 1000000 in
theorem awake_true : law17_awake 60 = some true := by kernel_rfl
theorem initial_true : style_Initial 60 = some (A22_Int.mk 0 (-1 : Int) 16 0 0 1 3 0 0 0 0 1 (-1 : Int) 0 1048576 0 1048576 0 0 0 0 0) := by kernel_rfl
theorem prop_cases (p : Int) : p < 0 ∨ 22 ≤ p ∨ ∃ k, k ∈ List.range 22 ∧ p = (k : Int) := by
  by_cases h : p < 0
  · exact .inl h
  by_cases h2 : 22 ≤ p
  · exact .inr (.inl h2)
  exact .inr (.inr ⟨p.toNat, by simp; omega, by omega⟩)
theorem inh_in (n : Nat) (k : Nat) (hk : k ∈ List.range 22) : ∃ b, style_Inherited n (k : Int) = some b ∧ ref17_Inherited n (k : Int) = some b := by
  have : k < 22 := by simpa using hk
  refine ⟨(style_Inherited n (k : Int)).getD false, ?_⟩
  rcases k with _ | _ | _ | _ | _ | _ | _ | _ | _ | _ | _ | _ | _ | _ | _ | _ | _ | _ | _ | _ | _ | _ | k
  iterate 22 exact ⟨by kernel_rfl, by kernel_rfl⟩
  omega
theorem inh (n : Nat) (p : Int) : ∃ b, style_Inherited n p = some b ∧ ref17_Inherited n p = some b := by
  rcases prop_cases p with h | h | ⟨k, hk, rfl⟩
  · refine ⟨false, ?_, ?_⟩
    · have h1 : decide (p ≥ 0) = false := by simp; omega
      simp [style_Inherited, style_exists, gd, h1]
    · have e : ∀ m : Int, 0 ≤ m → (p == m) = false := fun m hm => by simp; omega
      simp [ref17_Inherited, withJ, e]
  · refine ⟨false, ?_, ?_⟩
    · have h1 : decide (p < 22) = false := by simp; omega
      simp [style_Inherited, style_exists, gd, h1]
    · have e : ∀ m : Int, m < 22 → (p == m) = false := fun m hm => by simp; omega
      simp [ref17_Inherited, withJ, e]
  · exact inh_in n k hk
theorem rng_in (n : Nat) (q : Int) (k : Nat) (hk : k ∈ List.range 22) : ∃ b, style_InRange n (k : Int) q = some b ∧ ref17_InRange n (k : Int) q = some b := by
  have : k < 22 := by simpa using hk
  have key : ∀ (p lo hi : Int) (e : Gproperty), style_exists n p = some true → idx tab_widgetry_style_properties p = some e → e.low = lo → e.high = hi → ref17_InRange n p q = some ((((true && true) && (decide (q ≥ lo))) && (decide (q ≤ hi)))) → ∃ b, style_InRange n p q = some b ∧ ref17_InRange n p q = some b := fun p lo hi e h1 h2 h3 h4 h5 => by
    subst h3 h4
    refine ⟨_, ?_, h5⟩
    unfold style_InRange
    rw [h1, h2]
    cases hd : decide (q ≥ e.low) <;> simp only [hd, Option.bind_some, gd, List.all_cons, List.all_nil, id, Bool.and_true, Bool.true_and, if_true, Bool.false_eq_true, if_false, Bool.false_and]
  rcases k with _ | _ | _ | _ | _ | _ | _ | _ | _ | _ | _ | _ | _ | _ | _ | _ | _ | _ | _ | _ | _ | _ | k
  iterate 22 exact key _ _ _ _ rfl rfl rfl rfl rfl
  omega
theorem rng (n : Nat) (p q : Int) : ∃ b, style_InRange n p q = some b ∧ ref17_InRange n p q = some b := by
  rcases prop_cases p with h | h | ⟨k, hk, rfl⟩
  · refine ⟨false, ?_, ?_⟩
    · have h1 : decide (p ≥ 0) = false := by simp; omega
      simp [style_InRange, style_exists, gd, h1]
    · have e : ∀ m : Int, 0 ≤ m → (p == m) = false := fun m hm => by simp; omega
      have h1 : decide (p ≥ 0) = false := by simp; omega
      simp [ref17_InRange, withJ, e, h1]
  · refine ⟨false, ?_, ?_⟩
    · have h1 : decide (p < 22) = false := by simp; omega
      simp [style_InRange, style_exists, gd, h1]
    · have e : ∀ m : Int, m < 22 → (p == m) = false := fun m hm => by simp; omega
      have h1 : decide (p < 22) = false := by simp; omega
      simp [ref17_InRange, withJ, e, h1]
  · exact rng_in n q k hk
theorem table_loop (p1 p0 : Int) (j1 : Unit → Option Bool) : ∀ (k n : Nat) (v : Int), v = 23 - (k : Int) → k ≤ 24 → k < n → law17_StyleTable_L0 p1 j1 p0 n v = j1 ()
  | k, 0, v, _, _, h => by omega
  | 0, n + 1, v, hv, _, _ => by
    rw [law17_StyleTable_L0, if_neg (by simp; omega)]
  | k + 1, n + 1, v, hv, hk, hn => by
    rw [law17_StyleTable_L0, if_pos (by simp; omega)]
    obtain ⟨b, h1, h2⟩ := inh n v
    obtain ⟨c, h3, h4⟩ := rng n v p1
    have hw : IntKind.wrap .i64 (v + 1) = v + 1 := Go.Bm.wrap_small (by omega) (by omega)
    rw [h1, h2]
    simp only [Option.bind_some, bne_self_eq_false, Bool.not_false, h3, h4, gd, List.all_cons, List.all_nil, id, Bool.and_true, if_true, Bool.or_self, Bool.false_eq_true, if_false, hw]
    exact table_loop p1 p0 j1 k n (v + 1) (by omega) (by omega) (by omega)
theorem styleTable_true (p0 p1 : Int) : law17_StyleTable 60 p0 p1 = some true := by
  unfold law17_StyleTable withJ
  refine (table_loop p1 p0 _ 24 60 (-1) rfl (Nat.le_refl _) (by decide)).trans ?_
  obtain ⟨b, h1, h2⟩ := inh 60 p0
  obtain ⟨c, h3, h4⟩ := rng 60 p0 p1
  rw [h1, h2]
  simp only [Option.bind_some, h3, h4, gd, List.all_cons, List.all_nil, id, Bool.and_true, if_true, beq_self_eq_true, initial_true, ref17_Initial, awake_true]
end Go.Proofs.YtojkihhnioeggaaDoor.S
