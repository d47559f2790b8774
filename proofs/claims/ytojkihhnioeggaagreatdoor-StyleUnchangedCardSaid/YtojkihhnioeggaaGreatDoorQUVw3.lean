import Derived.Test.YtojkihhnioeggaaGreatDoorQUVw2
import Derived.Laws.Cover4
import Derived.WalkKit
import Derived.WalkSpells
import Derived.WalkLawsBesides
import Derived.Deep.QuietTactic
import Derived.BigQuiet
import Derived.BigRegion
import Derived.Lib.Hide
import Derived.Deep.RegionWith
set_option linter.unusedSimpArgs false
set_option linter.unusedVariables false
set_option linter.unusedSimpArgs false
set_option linter.unusedVariables false
namespace Go.Proofs.YtojkihhnioeggaaGreatDoor.S
open Go Go.Bm
theorem lC {s : ByteArray} (hs : s.size ≤ 2000) (h : Lib.validD s.data.toList = true) : Zg s := by
 refine ⟨hs, fun n _ => ?_, fun n _ => ?_⟩
 ·unfold utf8_ValidString
  rw [if_pos (by omega), h]
 ·unfold qF Ac
  rw [if_pos (by omega)]
  simp only [Option.bind_some, Gq s h, eY]
theorem tR {s : ByteArray} (h : eH 60 s = some true) : Qw s := by
 obtain ⟨x, hx⟩ := name s
 obtain rfl : x = true := Option.some.inj ((hx 60 (by decide)).1.symm.trans h)
 exact ⟨fun n hn => (hx n (by omega)).1, fun n hn => (hx n (by omega)).2⟩
theorem oN : Zg (⟨#[]⟩ : ByteArray) := lC (by decide) rfl
theorem nZ.fuel : ∀ (d : Nat) (v : aJ), nZ d v → Bn v * 3 ≤ 89 * (4 ^ d - 1)
 | 0, v, h => h.elim
 | d + 1, v, ⟨h, hk⟩ => by
  rw [xT]
  have key : ∀ l : List aJ, (∀ k, k ∈ l → nZ d k) → Mo l * 3 ≤ l.length * (89 * (4 ^ d - 1)) := by
   intro l
   induction l with
   | nil => intro _; simp [Mo]
   | cons k l ih =>
    intro hl
    have h1 := nZ.fuel d k (hl k (by simp))
    have h2 := ih fun x hx => hl x (by simp [hx])
    rw [Mo, List.length_cons, Nat.add_mul, Nat.add_mul]
    omega
  have h1 := key v.Kids hk
  have h2 : v.Kids.length * (89 * (4 ^ d - 1)) ≤ 4 * (89 * (4 ^ d - 1)) := Nat.mul_le_mul_right _ h.klen
  have h3 : 1 ≤ 4 ^ d := Nat.one_le_pow _ _ (by decide)
  have h4 := h.klen
  have h5 := h.alen
  have h6 := h.elen
  rw [Nat.pow_succ]
  omega
theorem nZ.fuel4 {v : aJ} (h : nZ 4 v) : Bn v ≤ 8000 := by
 have := nZ.fuel 4 v h
 omega
theorem Zh : (⟨#[]⟩ : ByteArray).size = 0 := rfl
theorem qK (k : Int) (h1 : -1099511627776 ≤ k) (h2 : k ≤ 1099511627776) (n : Nat) (hn : 100 ≤ n) (d p : Int) (hp : 0 ≤ p ∧ p ≤ 900) : eD n ⟨1, k, (⟨#[]⟩ : ByteArray), []⟩ d p = some (aV.mk 1 [], 0, p + 1) := by
 obtain ⟨n, rfl⟩ : ∃ m, n = m + 1 := ⟨n - 1, by omega⟩
 have hw : IntKind.wrap .i64 (p + 1) = p + 1 := Go.Bm.aT (by omega) (by omega)
 have c1 : decide (k ≥ -1099511627776) = true := by simpa using h1
 have c2 : decide (k ≤ 1099511627776) = true := by simpa using h2
 have c3 : decide (p + 1 > 1000) = false := by simp; omega
 rw [eD, eR]
 simp [iT, iQ, aS, gd, eY, hw, c1, c2, c3, Zh, oN.prog n (by omega)]
 try omega
theorem qB (k : Int) (h1 : -1099511627776 ≤ k) (h2 : k ≤ 1099511627776) (n : Nat) (hn : 100 ≤ n) (d p : Int) (hp : 0 ≤ p ∧ p ≤ 900) : dL n ⟨1, k, (⟨#[]⟩ : ByteArray), []⟩ d p = some (aV.mk 1 [], p + 1, 0) := by
 obtain ⟨n, rfl⟩ : ∃ m, n = m + 1 := ⟨n - 1, by omega⟩
 have hw : IntKind.wrap .i64 (p + 1) = p + 1 := Go.Bm.aT (by omega) (by omega)
 have c1 : decide (k < -1099511627776) = false := by simp; omega
 have c2 : decide (k > 1099511627776) = false := by simp; omega
 have c3 : decide (p + 1 > 1000) = false := by simp; omega
 obtain ⟨n, rfl⟩ : ∃ m, n = m + 1 := ⟨n - 1, by omega⟩
 rw [dL, dW]
 simp [aS, gd, eY, hw, c1, c2, c3, Zh, oN.ref (n + 1) (by omega), eO]
 try omega
theorem Pc {x : aF} {t : aV} (h1 : ∀ n, 120 ≤ n → eD n x 0 0 = some (t, 0, 1)) (h2 : ∀ n, 120 ≤ n → dL n x 1 0 = some (t, 1, 0)) (ht : t.Of = []) (hL : x.L = []) : Ol x := by
 refine ⟨fun n hn => ?_, fun n hn => ?_, fun n hn => ?_⟩
 ·unfold jS lB
  rw [h1 n (by omega)]
  obtain ⟨n, rfl⟩ : ∃ m, n = m + 1 := ⟨n - 1, by omega⟩
  simp [gH, jV, ht]
 ·unfold iS kE
  rw [h2 n (by omega)]
  rfl
 ·obtain ⟨n, rfl⟩ : ∃ m, n = m + 10 := ⟨n - 10, by omega⟩
  cases x with
  | mk k m s l =>
   simp only at hL
   subst hL
   kernel_rfl
theorem wE (k : Int) (h1 : -1099511627776 ≤ k) (h2 : k ≤ 1099511627776) : Ol ⟨1, k, (⟨#[]⟩ : ByteArray), []⟩ :=
 Pc (t := aV.mk 1 []) (fun n hn => qK k h1 h2 n (by omega) 0 0 (by omega)) (fun n hn => qB k h1 h2 n (by omega) 1 0 (by omega)) rfl rfl
theorem uX (k : Int) (h : k = 0 ∨ k = 1) : Ol ⟨2, k, (⟨#[]⟩ : ByteArray), []⟩ := by
 refine Pc (t := aV.mk 2 []) (fun n hn => ?_) (fun n hn => ?_) rfl rfl
 ·obtain ⟨n, rfl⟩ : ∃ m, n = m + 1 := ⟨n - 1, by omega⟩
  have hw : IntKind.wrap .i64 ((0 : Int) + 1) = 1 := by decide
  have hw1 : IntKind.wrap .i64 (1 : Int) = 1 := by decide
  rw [eD, eR]
  rcases h with rfl | rfl <;> simp [iT, iQ, aS, gd, eY, hw, hw1, Zh, oN.prog n (by omega)]
 ·obtain ⟨n, rfl⟩ : ∃ m, n = m + 1 := ⟨n - 1, by omega⟩
  have hw : IntKind.wrap .i64 ((0 : Int) + 1) = 1 := by decide
  have hw1 : IntKind.wrap .i64 (1 : Int) = 1 := by decide
  obtain ⟨n, rfl⟩ : ∃ m, n = m + 1 := ⟨n - 1, by omega⟩
  rw [dL, dW]
  rcases h with rfl | rfl <;> simp [aS, gd, eY, hw, hw1, Zh, oN.ref (n + 1) (by omega), eO]
theorem tF (s : ByteArray) (h : Zg s) : Ol ⟨3, 0, s, []⟩ := by
 refine Pc (t := aV.mk 3 []) (fun n hn => ?_) (fun n hn => ?_) rfl rfl
 ·obtain ⟨n, rfl⟩ : ∃ m, n = m + 1 := ⟨n - 1, by omega⟩
  have hw : IntKind.wrap .i64 ((0 : Int) + 1) = 1 := by decide
  have hw1 : IntKind.wrap .i64 (1 : Int) = 1 := by decide
  have hs := h.size
  have c : decide ((s.size : Int) > 2000) = false := by simp; omega
  have c' : ¬ (2000 : Int) < (s.size : Int) := by omega
  rw [eD, eR]
  simp [iT, iQ, aS, gd, eY, hw, hw1, c', h.prog n (by omega)]
 ·obtain ⟨n, rfl⟩ : ∃ m, n = m + 1 := ⟨n - 1, by omega⟩
  have hw : IntKind.wrap .i64 ((0 : Int) + 1) = 1 := by decide
  have hw1 : IntKind.wrap .i64 (1 : Int) = 1 := by decide
  obtain ⟨n, rfl⟩ : ∃ m, n = m + 1 := ⟨n - 1, by omega⟩
  have hs := h.size
  have c' : ¬ (2000 : Int) < (s.size : Int) := by omega
  rw [dL, dW]
  simp [aS, gd, eY, hw, hw1, c', h.ref (n + 1) (by omega), eO]
end Go.Proofs.YtojkihhnioeggaaGreatDoor.S
