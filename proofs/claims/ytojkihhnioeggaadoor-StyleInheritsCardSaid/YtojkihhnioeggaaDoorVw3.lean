/- The draws of views over the plain functions. Printed by vw3.py. -/
import Derived.Test.YtojkihhnioeggaaDoorVw2
import Derived.Laws.Cover4
import Derived.WalkKit
import Derived.WalkSpells
import Derived.WalkLawsBesides
import Derived.Deep.QuietTactic
import Derived.BigQuiet
import Derived.BigRegion
import Derived.Lib.Hide
import Derived.Deep.RegionWith
set_option linter.unusedSimpArgs false
set_option linter.unusedVariables false
set_option linter.unusedSimpArgs false
set_option linter.unusedVariables false
namespace Go.Proofs.YtojkihhnioeggaaDoor.S
open Go Go.Bm
theorem tok_of {s : ByteArray} (hs : s.size ≤ 2000) (h : Lib.validD s.data.toList = true) : TOk s := by
  refine ⟨hs, fun n _ => ?_, fun n _ => ?_⟩
  · unfold utf8_ValidString
    rw [if_pos (by omega), h]
  · unfold ref11_UTF8 runesO
    rw [if_pos (by omega)]
    simp only [Option.bind_some, runes_back s h, sEq_refl]
theorem nok_of {s : ByteArray} (h : expr_Name 60 s = some true) : NOk s := by
  obtain ⟨x, hx⟩ := name s
  obtain rfl : x = true := Option.some.inj ((hx 60 (by decide)).1.symm.trans h)
  exact ⟨fun n hn => (hx n (by omega)).1, fun n hn => (hx n (by omega)).2⟩
theorem tok_nil : TOk (⟨#[]⟩ : ByteArray) := tok_of (by decide) rfl
theorem VOk.fuel : ∀ (d : Nat) (v : GView), VOk d v → vfu v * 3 ≤ 89 * (4 ^ d - 1)
  | 0, v, h => h.elim
  | d + 1, v, ⟨h, hk⟩ => by
    rw [vfu_eq]
    have key : ∀ l : List GView, (∀ k, k ∈ l → VOk d k) → vfus l * 3 ≤ l.length * (89 * (4 ^ d - 1)) := by
      intro l
      induction l with
      | nil => intro _; simp [vfus]
      | cons k l ih =>
        intro hl
        have h1 := VOk.fuel d k (hl k (by simp))
        have h2 := ih fun x hx => hl x (by simp [hx])
        rw [vfus, List.length_cons, Nat.add_mul, Nat.add_mul]
        omega
    have h1 := key v.Kids hk
    have h2 : v.Kids.length * (89 * (4 ^ d - 1)) ≤ 4 * (89 * (4 ^ d - 1)) := Nat.mul_le_mul_right _ h.klen
    have h3 : 1 ≤ 4 ^ d := Nat.one_le_pow _ _ (by decide)
    have h4 := h.klen
    have h5 := h.alen
    have h6 := h.elen
    rw [Nat.pow_succ]
    omega
theorem VOk.fuel4 {v : GView} (h : VOk 4 v) : vfu v ≤ 8000 := by
  have := VOk.fuel 4 v h
  omega
/- values -/
theorem sz0 : (⟨#[]⟩ : ByteArray).size = 0 := rfl
theorem chkE_num (k : Int) (h1 : -1099511627776 ≤ k) (h2 : k ≤ 1099511627776) (n : Nat) (hn : 100 ≤ n) (d p : Int) (hp : 0 ≤ p ∧ p ≤ 900) : expr_check n ⟨1, k, (⟨#[]⟩ : ByteArray), []⟩ d p = some (GType.mk 1 [], 0, p + 1) := by
  obtain ⟨n, rfl⟩ : ∃ m, n = m + 1 := ⟨n - 1, by omega⟩
  have hw : IntKind.wrap .i64 (p + 1) = p + 1 := Go.Bm.wrap_small (by omega) (by omega)
  have c1 : decide (k ≥ -1099511627776) = true := by simpa using h1
  have c2 : decide (k ≤ 1099511627776) = true := by simpa using h2
  have c3 : decide (p + 1 > 1000) = false := by simp; omega
  rw [expr_check, expr_check_body]
  simp [expr_fields, expr_within, withJ, gd, sEq_refl, hw, c1, c2, c3, sz0, tok_nil.prog n (by omega)]
  try omega
theorem chkR_num (k : Int) (h1 : -1099511627776 ≤ k) (h2 : k ≤ 1099511627776) (n : Nat) (hn : 100 ≤ n) (d p : Int) (hp : 0 ≤ p ∧ p ≤ 900) : ref11_check n ⟨1, k, (⟨#[]⟩ : ByteArray), []⟩ d p = some (GType.mk 1 [], p + 1, 0) := by
  obtain ⟨n, rfl⟩ : ∃ m, n = m + 1 := ⟨n - 1, by omega⟩
  have hw : IntKind.wrap .i64 (p + 1) = p + 1 := Go.Bm.wrap_small (by omega) (by omega)
  have c1 : decide (k < -1099511627776) = false := by simp; omega
  have c2 : decide (k > 1099511627776) = false := by simp; omega
  have c3 : decide (p + 1 > 1000) = false := by simp; omega
  obtain ⟨n, rfl⟩ : ∃ m, n = m + 1 := ⟨n - 1, by omega⟩
  rw [ref11_check, ref11_check_body]
  simp [withJ, gd, sEq_refl, hw, c1, c2, c3, sz0, tok_nil.ref (n + 1) (by omega), ref11_check_L0]
  try omega
theorem cok_of {x : GValue} {t : GType} (h1 : ∀ n, 120 ≤ n → expr_check n x 0 0 = some (t, 0, 1)) (h2 : ∀ n, 120 ≤ n → ref11_check n x 1 0 = some (t, 1, 0)) (ht : t.Of = []) (hL : x.L = []) : COk x := by
  refine ⟨fun n hn => ?_, fun n hn => ?_, fun n hn => ?_⟩
  · unfold expr_Check expr_TypeOf
    rw [h1 n (by omega)]
    obtain ⟨n, rfl⟩ : ∃ m, n = m + 1 := ⟨n - 1, by omega⟩
    simp [expr_copyType, expr_copyType_body, ht]
  · unfold ref11_Check ref11_TypeOf
    rw [h2 n (by omega)]
    rfl
  · obtain ⟨n, rfl⟩ : ∃ m, n = m + 10 := ⟨n - 10, by omega⟩
    cases x with
    | mk k m s l =>
      simp only at hL
      subst hL
      kernel_rfl
theorem cok_num (k : Int) (h1 : -1099511627776 ≤ k) (h2 : k ≤ 1099511627776) : COk ⟨1, k, (⟨#[]⟩ : ByteArray), []⟩ :=
  cok_of (t := GType.mk 1 []) (fun n hn => chkE_num k h1 h2 n (by omega) 0 0 (by omega)) (fun n hn => chkR_num k h1 h2 n (by omega) 1 0 (by omega)) rfl rfl
theorem cok_flag (k : Int) (h : k = 0 ∨ k = 1) : COk ⟨2, k, (⟨#[]⟩ : ByteArray), []⟩ := by
  refine cok_of (t := GType.mk 2 []) (fun n hn => ?_) (fun n hn => ?_) rfl rfl
  · obtain ⟨n, rfl⟩ : ∃ m, n = m + 1 := ⟨n - 1, by omega⟩
    have hw : IntKind.wrap .i64 ((0 : Int) + 1) = 1 := by decide
    have hw1 : IntKind.wrap .i64 (1 : Int) = 1 := by decide
    rw [expr_check, expr_check_body]
    rcases h with rfl | rfl <;> simp [expr_fields, expr_within, withJ, gd, sEq_refl, hw, hw1, sz0, tok_nil.prog n (by omega)]
  · obtain ⟨n, rfl⟩ : ∃ m, n = m + 1 := ⟨n - 1, by omega⟩
    have hw : IntKind.wrap .i64 ((0 : Int) + 1) = 1 := by decide
    have hw1 : IntKind.wrap .i64 (1 : Int) = 1 := by decide
    obtain ⟨n, rfl⟩ : ∃ m, n = m + 1 := ⟨n - 1, by omega⟩
    rw [ref11_check, ref11_check_body]
    rcases h with rfl | rfl <;> simp [withJ, gd, sEq_refl, hw, hw1, sz0, tok_nil.ref (n + 1) (by omega), ref11_check_L0]
theorem cok_text (s : ByteArray) (h : TOk s) : COk ⟨3, 0, s, []⟩ := by
  refine cok_of (t := GType.mk 3 []) (fun n hn => ?_) (fun n hn => ?_) rfl rfl
  · obtain ⟨n, rfl⟩ : ∃ m, n = m + 1 := ⟨n - 1, by omega⟩
    have hw : IntKind.wrap .i64 ((0 : Int) + 1) = 1 := by decide
    have hw1 : IntKind.wrap .i64 (1 : Int) = 1 := by decide
    have hs := h.size
    have c : decide ((s.size : Int) > 2000) = false := by simp; omega
    have c' : ¬ (2000 : Int) < (s.size : Int) := by omega
    rw [expr_check, expr_check_body]
    simp [expr_fields, expr_within, withJ, gd, sEq_refl, hw, hw1, c', h.prog n (by omega)]
  · obtain ⟨n, rfl⟩ : ∃ m, n = m + 1 := ⟨n - 1, by omega⟩
    have hw : IntKind.wrap .i64 ((0 : Int) + 1) = 1 := by decide
    have hw1 : IntKind.wrap .i64 (1 : Int) = 1 := by decide
    obtain ⟨n, rfl⟩ : ∃ m, n = m + 1 := ⟨n - 1, by omega⟩
    have hs := h.size
    have c' : ¬ (2000 : Int) < (s.size : Int) := by omega
    rw [ref11_check, ref11_check_body]
    simp [withJ, gd, sEq_refl, hw, hw1, c', h.ref (n + 1) (by omega), ref11_check_L0]
end Go.Proofs.YtojkihhnioeggaaDoor.S
