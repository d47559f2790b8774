import Derived.Test.YtojkihhnioeggaaGreatDoorQVw2
import Derived.Laws.Cover4
import Derived.WalkKit
import Derived.WalkSpells
import Derived.WalkLawsBesides
import Derived.Deep.QuietTactic
import Derived.BigQuiet
import Derived.BigRegion
import Derived.Lib.Hide
import Derived.Deep.RegionWith
set_option linter.unusedSimpArgs false
set_option linter.unusedVariables false
set_option linter.unusedSimpArgs false
set_option linter.unusedVariables false
namespace Go.Proofs.YtojkihhnioeggaaGreatDoor.S
open Go Go.Bm
theorem jZ {s : ByteArray} (hs : s.size ≤ 2000) (h : Lib.validD s.data.toList = true) : Ta s := by
 refine ⟨hs, fun n _ => ?_, fun n _ => ?_⟩
 ·unfold utf8_ValidString
  rw [if_pos (by omega), h]
 ·unfold pJ yS
  rw [if_pos (by omega)]
  simp only [Option.bind_some, Dc s h, gT]
theorem Kj {s : ByteArray} (h : fO 60 s = some true) : NOk s := by
 obtain ⟨x, hx⟩ := name s
 obtain rfl : x = true := Option.some.inj ((hx 60 (by decide)).1.symm.trans h)
 exact ⟨fun n hn => (hx n (by omega)).1, fun n hn => (hx n (by omega)).2⟩
theorem mZ : Ta (⟨#[]⟩ : ByteArray) := jZ (by decide) rfl
theorem sS.fuel : ∀ (d : Nat) (v : aK), sS d v → Hh v * 3 ≤ 89 * (4 ^ d - 1)
 | 0, v, h => h.elim
 | d + 1, v, ⟨h, hk⟩ => by
  rw [wC]
  have key : ∀ l : List aK, (∀ k, k ∈ l → sS d k) → Ib l * 3 ≤ l.length * (89 * (4 ^ d - 1)) := by
   intro l
   induction l with
   | nil => intro _; simp [Ib]
   | cons k l ih =>
    intro hl
    have h1 := sS.fuel d k (hl k (by simp))
    have h2 := ih fun x hx => hl x (by simp [hx])
    rw [Ib, List.length_cons, Nat.add_mul, Nat.add_mul]
    omega
  have h1 := key v.Kids hk
  have h2 : v.Kids.length * (89 * (4 ^ d - 1)) ≤ 4 * (89 * (4 ^ d - 1)) := Nat.mul_le_mul_right _ h.klen
  have h3 : 1 ≤ 4 ^ d := Nat.one_le_pow _ _ (by decide)
  have h4 := h.klen
  have h5 := h.alen
  have h6 := h.elen
  rw [Nat.pow_succ]
  omega
theorem sS.fuel4 {v : aK} (h : sS 4 v) : Hh v ≤ 8000 := by
 have := sS.fuel 4 v h
 omega
theorem Tb : (⟨#[]⟩ : ByteArray).size = 0 := rfl
theorem pD (k : Int) (h1 : -1099511627776 ≤ k) (h2 : k ≤ 1099511627776) (n : Nat) (hn : 100 ≤ n) (d p : Int) (hp : 0 ≤ p ∧ p ≤ 900) : dO n ⟨1, k, (⟨#[]⟩ : ByteArray), []⟩ d p = some (aQ.mk 1 [], 0, p + 1) := by
 obtain ⟨n, rfl⟩ : ∃ m, n = m + 1 := ⟨n - 1, by omega⟩
 have hw : IntKind.wrap .i64 (p + 1) = p + 1 := Go.Bm.bB (by omega) (by omega)
 have c1 : decide (k ≥ -1099511627776) = true := by simpa using h1
 have c2 : decide (k ≤ 1099511627776) = true := by simpa using h2
 have c3 : decide (p + 1 > 1000) = false := by simp; omega
 rw [dO, dZ]
 simp [gZ, hZ, aX, gd, gT, hw, c1, c2, c3, Tb, mZ.prog n (by omega)]
 try omega
theorem oX (k : Int) (h1 : -1099511627776 ≤ k) (h2 : k ≤ 1099511627776) (n : Nat) (hn : 100 ≤ n) (d p : Int) (hp : 0 ≤ p ∧ p ≤ 900) : cW n ⟨1, k, (⟨#[]⟩ : ByteArray), []⟩ d p = some (aQ.mk 1 [], p + 1, 0) := by
 obtain ⟨n, rfl⟩ : ∃ m, n = m + 1 := ⟨n - 1, by omega⟩
 have hw : IntKind.wrap .i64 (p + 1) = p + 1 := Go.Bm.bB (by omega) (by omega)
 have c1 : decide (k < -1099511627776) = false := by simp; omega
 have c2 : decide (k > 1099511627776) = false := by simp; omega
 have c3 : decide (p + 1 > 1000) = false := by simp; omega
 obtain ⟨n, rfl⟩ : ∃ m, n = m + 1 := ⟨n - 1, by omega⟩
 rw [cW, dI]
 simp [aX, gd, gT, hw, c1, c2, c3, Tb, mZ.ref (n + 1) (by omega), dY]
 try omega
theorem Ka {x : aF} {t : aQ} (h1 : ∀ n, 120 ≤ n → dO n x 0 0 = some (t, 0, 1)) (h2 : ∀ n, 120 ≤ n → cW n x 1 0 = some (t, 1, 0)) (ht : t.Of = []) (hL : x.L = []) : Jw x := by
 refine ⟨fun n hn => ?_, fun n hn => ?_, fun n hn => ?_⟩
 ·unfold iX kD
  rw [h1 n (by omega)]
  obtain ⟨n, rfl⟩ : ∃ m, n = m + 1 := ⟨n - 1, by omega⟩
  simp [fT, iZ, ht]
 ·unfold hP iY
  rw [h2 n (by omega)]
  rfl
 ·obtain ⟨n, rfl⟩ : ∃ m, n = m + 10 := ⟨n - 10, by omega⟩
  cases x with
  | mk k m s l =>
   simp only at hL
   subst hL
   kernel_rfl
theorem uQ (k : Int) (h1 : -1099511627776 ≤ k) (h2 : k ≤ 1099511627776) : Jw ⟨1, k, (⟨#[]⟩ : ByteArray), []⟩ :=
 Ka (t := aQ.mk 1 []) (fun n hn => pD k h1 h2 n (by omega) 0 0 (by omega)) (fun n hn => oX k h1 h2 n (by omega) 1 0 (by omega)) rfl rfl
theorem tY (k : Int) (h : k = 0 ∨ k = 1) : Jw ⟨2, k, (⟨#[]⟩ : ByteArray), []⟩ := by
 refine Ka (t := aQ.mk 2 []) (fun n hn => ?_) (fun n hn => ?_) rfl rfl
 ·obtain ⟨n, rfl⟩ : ∃ m, n = m + 1 := ⟨n - 1, by omega⟩
  have hw : IntKind.wrap .i64 ((0 : Int) + 1) = 1 := by decide
  have hw1 : IntKind.wrap .i64 (1 : Int) = 1 := by decide
  rw [dO, dZ]
  rcases h with rfl | rfl <;> simp [gZ, hZ, aX, gd, gT, hw, hw1, Tb, mZ.prog n (by omega)]
 ·obtain ⟨n, rfl⟩ : ∃ m, n = m + 1 := ⟨n - 1, by omega⟩
  have hw : IntKind.wrap .i64 ((0 : Int) + 1) = 1 := by decide
  have hw1 : IntKind.wrap .i64 (1 : Int) = 1 := by decide
  obtain ⟨n, rfl⟩ : ∃ m, n = m + 1 := ⟨n - 1, by omega⟩
  rw [cW, dI]
  rcases h with rfl | rfl <;> simp [aX, gd, gT, hw, hw1, Tb, mZ.ref (n + 1) (by omega), dY]
theorem qO (s : ByteArray) (h : Ta s) : Jw ⟨3, 0, s, []⟩ := by
 refine Ka (t := aQ.mk 3 []) (fun n hn => ?_) (fun n hn => ?_) rfl rfl
 ·obtain ⟨n, rfl⟩ : ∃ m, n = m + 1 := ⟨n - 1, by omega⟩
  have hw : IntKind.wrap .i64 ((0 : Int) + 1) = 1 := by decide
  have hw1 : IntKind.wrap .i64 (1 : Int) = 1 := by decide
  have hs := h.size
  have c : decide ((s.size : Int) > 2000) = false := by simp; omega
  have c' : ¬ (2000 : Int) < (s.size : Int) := by omega
  rw [dO, dZ]
  simp [gZ, hZ, aX, gd, gT, hw, hw1, c', h.prog n (by omega)]
 ·obtain ⟨n, rfl⟩ : ∃ m, n = m + 1 := ⟨n - 1, by omega⟩
  have hw : IntKind.wrap .i64 ((0 : Int) + 1) = 1 := by decide
  have hw1 : IntKind.wrap .i64 (1 : Int) = 1 := by decide
  obtain ⟨n, rfl⟩ : ∃ m, n = m + 1 := ⟨n - 1, by omega⟩
  have hs := h.size
  have c' : ¬ (2000 : Int) < (s.size : Int) := by omega
  rw [cW, dI]
  simp [aX, gd, gT, hw, hw1, c', h.ref (n + 1) (by omega), dY]
end Go.Proofs.YtojkihhnioeggaaGreatDoor.S
