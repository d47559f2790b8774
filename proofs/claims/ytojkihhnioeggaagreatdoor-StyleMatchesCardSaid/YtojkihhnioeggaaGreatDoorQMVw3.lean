import Derived.Test.YtojkihhnioeggaaGreatDoorQMVw2
import Derived.Laws.Cover4
import Derived.WalkKit
import Derived.WalkSpells
import Derived.WalkLawsBesides
import Derived.Deep.QuietTactic
import Derived.BigQuiet
import Derived.BigRegion
import Derived.Lib.Hide
import Derived.Deep.RegionWith
set_option linter.unusedSimpArgs false
set_option linter.unusedVariables false
set_option linter.unusedSimpArgs false
set_option linter.unusedVariables false
namespace Go.Proofs.YtojkihhnioeggaaGreatDoor.S
open Go Go.Bm
theorem kP {s : ByteArray} (hs : s.size ≤ 2000) (h : Lib.validD s.data.toList = true) : Ul s := by
 refine ⟨hs, fun n _ => ?_, fun n _ => ?_⟩
 ·unfold utf8_ValidString
  rw [if_pos (by omega), h]
 ·unfold pM yN
  rw [if_pos (by omega)]
  simp only [Option.bind_some, Cq s h, gM]
theorem tW {s : ByteArray} (h : fO 60 s = some true) : Py s := by
 obtain ⟨x, hx⟩ := name s
 obtain rfl : x = true := Option.some.inj ((hx 60 (by decide)).1.symm.trans h)
 exact ⟨fun n hn => (hx n (by omega)).1, fun n hn => (hx n (by omega)).2⟩
theorem nS : Ul (⟨#[]⟩ : ByteArray) := kP (by decide) rfl
theorem qX.fuel : ∀ (d : Nat) (v : aL), qX d v → Fi v * 3 ≤ 89 * (4 ^ d - 1)
 | 0, v, h => h.elim
 | d + 1, v, ⟨h, hk⟩ => by
  rw [wT]
  have key : ∀ l : List aL, (∀ k, k ∈ l → qX d k) → Kb l * 3 ≤ l.length * (89 * (4 ^ d - 1)) := by
   intro l
   induction l with
   | nil => intro _; simp [Kb]
   | cons k l ih =>
    intro hl
    have h1 := qX.fuel d k (hl k (by simp))
    have h2 := ih fun x hx => hl x (by simp [hx])
    rw [Kb, List.length_cons, Nat.add_mul, Nat.add_mul]
    omega
  have h1 := key v.Kids hk
  have h2 : v.Kids.length * (89 * (4 ^ d - 1)) ≤ 4 * (89 * (4 ^ d - 1)) := Nat.mul_le_mul_right _ h.klen
  have h3 : 1 ≤ 4 ^ d := Nat.one_le_pow _ _ (by decide)
  have h4 := h.klen
  have h5 := h.alen
  have h6 := h.elen
  rw [Nat.pow_succ]
  omega
theorem qX.fuel4 {v : aL} (h : qX 4 v) : Fi v ≤ 8000 := by
 have := qX.fuel 4 v h
 omega
theorem Un : (⟨#[]⟩ : ByteArray).size = 0 := rfl
theorem pV (k : Int) (h1 : -1099511627776 ≤ k) (h2 : k ≤ 1099511627776) (n : Nat) (hn : 100 ≤ n) (d p : Int) (hp : 0 ≤ p ∧ p ≤ 900) : dX n ⟨1, k, (⟨#[]⟩ : ByteArray), []⟩ d p = some (aS.mk 1 [], 0, p + 1) := by
 obtain ⟨n, rfl⟩ : ∃ m, n = m + 1 := ⟨n - 1, by omega⟩
 have hw : IntKind.wrap .i64 (p + 1) = p + 1 := Go.Bm.bB (by omega) (by omega)
 have c1 : decide (k ≥ -1099511627776) = true := by simpa using h1
 have c2 : decide (k ≤ 1099511627776) = true := by simpa using h2
 have c3 : decide (p + 1 > 1000) = false := by simp; omega
 rw [dX, eJ]
 simp [iF, iE, aV, gd, gM, hw, c1, c2, c3, Un, nS.prog n (by omega)]
 try omega
theorem pY (k : Int) (h1 : -1099511627776 ≤ k) (h2 : k ≤ 1099511627776) (n : Nat) (hn : 100 ≤ n) (d p : Int) (hp : 0 ≤ p ∧ p ≤ 900) : dF n ⟨1, k, (⟨#[]⟩ : ByteArray), []⟩ d p = some (aS.mk 1 [], p + 1, 0) := by
 obtain ⟨n, rfl⟩ : ∃ m, n = m + 1 := ⟨n - 1, by omega⟩
 have hw : IntKind.wrap .i64 (p + 1) = p + 1 := Go.Bm.bB (by omega) (by omega)
 have c1 : decide (k < -1099511627776) = false := by simp; omega
 have c2 : decide (k > 1099511627776) = false := by simp; omega
 have c3 : decide (p + 1 > 1000) = false := by simp; omega
 obtain ⟨n, rfl⟩ : ∃ m, n = m + 1 := ⟨n - 1, by omega⟩
 rw [dF, dQ]
 simp [aV, gd, gM, hw, c1, c2, c3, Un, nS.ref (n + 1) (by omega), eG]
 try omega
theorem Ln {x : aH} {t : aS} (h1 : ∀ n, 120 ≤ n → dX n x 0 0 = some (t, 0, 1)) (h2 : ∀ n, 120 ≤ n → dF n x 1 0 = some (t, 1, 0)) (ht : t.Of = []) (hL : x.L = []) : Lj x := by
 refine ⟨fun n hn => ?_, fun n hn => ?_, fun n hn => ?_⟩
 ·unfold jL kX
  rw [h1 n (by omega)]
  obtain ⟨n, rfl⟩ : ∃ m, n = m + 1 := ⟨n - 1, by omega⟩
  simp [fY, jK, ht]
 ·unfold iK jM
  rw [h2 n (by omega)]
  rfl
 ·obtain ⟨n, rfl⟩ : ∃ m, n = m + 10 := ⟨n - 10, by omega⟩
  cases x with
  | mk k m s l =>
   simp only at hL
   subst hL
   kernel_rfl
theorem vE (k : Int) (h1 : -1099511627776 ≤ k) (h2 : k ≤ 1099511627776) : Lj ⟨1, k, (⟨#[]⟩ : ByteArray), []⟩ :=
 Ln (t := aS.mk 1 []) (fun n hn => pV k h1 h2 n (by omega) 0 0 (by omega)) (fun n hn => pY k h1 h2 n (by omega) 1 0 (by omega)) rfl rfl
theorem uP (k : Int) (h : k = 0 ∨ k = 1) : Lj ⟨2, k, (⟨#[]⟩ : ByteArray), []⟩ := by
 refine Ln (t := aS.mk 2 []) (fun n hn => ?_) (fun n hn => ?_) rfl rfl
 ·obtain ⟨n, rfl⟩ : ∃ m, n = m + 1 := ⟨n - 1, by omega⟩
  have hw : IntKind.wrap .i64 ((0 : Int) + 1) = 1 := by decide
  have hw1 : IntKind.wrap .i64 (1 : Int) = 1 := by decide
  rw [dX, eJ]
  rcases h with rfl | rfl <;> simp [iF, iE, aV, gd, gM, hw, hw1, Un, nS.prog n (by omega)]
 ·obtain ⟨n, rfl⟩ : ∃ m, n = m + 1 := ⟨n - 1, by omega⟩
  have hw : IntKind.wrap .i64 ((0 : Int) + 1) = 1 := by decide
  have hw1 : IntKind.wrap .i64 (1 : Int) = 1 := by decide
  obtain ⟨n, rfl⟩ : ∃ m, n = m + 1 := ⟨n - 1, by omega⟩
  rw [dF, dQ]
  rcases h with rfl | rfl <;> simp [aV, gd, gM, hw, hw1, Un, nS.ref (n + 1) (by omega), eG]
theorem rN (s : ByteArray) (h : Ul s) : Lj ⟨3, 0, s, []⟩ := by
 refine Ln (t := aS.mk 3 []) (fun n hn => ?_) (fun n hn => ?_) rfl rfl
 ·obtain ⟨n, rfl⟩ : ∃ m, n = m + 1 := ⟨n - 1, by omega⟩
  have hw : IntKind.wrap .i64 ((0 : Int) + 1) = 1 := by decide
  have hw1 : IntKind.wrap .i64 (1 : Int) = 1 := by decide
  have hs := h.size
  have c : decide ((s.size : Int) > 2000) = false := by simp; omega
  have c' : ¬ (2000 : Int) < (s.size : Int) := by omega
  rw [dX, eJ]
  simp [iF, iE, aV, gd, gM, hw, hw1, c', h.prog n (by omega)]
 ·obtain ⟨n, rfl⟩ : ∃ m, n = m + 1 := ⟨n - 1, by omega⟩
  have hw : IntKind.wrap .i64 ((0 : Int) + 1) = 1 := by decide
  have hw1 : IntKind.wrap .i64 (1 : Int) = 1 := by decide
  obtain ⟨n, rfl⟩ : ∃ m, n = m + 1 := ⟨n - 1, by omega⟩
  have hs := h.size
  have c' : ¬ (2000 : Int) < (s.size : Int) := by omega
  rw [dF, dQ]
  simp [aV, gd, gM, hw, hw1, c', h.ref (n + 1) (by omega), eG]
end Go.Proofs.YtojkihhnioeggaaGreatDoor.S
