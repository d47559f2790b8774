import Derived.Test.YtojkihhnioeggaaGreatDoorQRVw2
import Derived.Laws.Cover4
import Derived.WalkKit
import Derived.WalkSpells
import Derived.WalkLawsBesides
import Derived.Deep.QuietTactic
import Derived.BigQuiet
import Derived.BigRegion
import Derived.Lib.Hide
import Derived.Deep.RegionWith
set_option linter.unusedSimpArgs false
set_option linter.unusedVariables false
set_option linter.unusedSimpArgs false
set_option linter.unusedVariables false
namespace Go.Proofs.YtojkihhnioeggaaGreatDoor.S
open Go Go.Bm
theorem kZ {s : ByteArray} (hs : s.size ≤ 2000) (h : Lib.validD s.data.toList = true) : Yd s := by
 refine ⟨hs, fun n _ => ?_, fun n _ => ?_⟩
 ·unfold utf8_ValidString
  rw [if_pos (by omega), h]
 ·unfold pZ zJ
  rw [if_pos (by omega)]
  simp only [Option.bind_some, Fp s h, eY]
theorem tC {s : ByteArray} (h : eD 60 s = some true) : Pw s := by
 obtain ⟨x, hx⟩ := name s
 obtain rfl : x = true := Option.some.inj ((hx 60 (by decide)).1.symm.trans h)
 exact ⟨fun n hn => (hx n (by omega)).1, fun n hn => (hx n (by omega)).2⟩
theorem oD : Yd (⟨#[]⟩ : ByteArray) := kZ (by decide) rfl
theorem oT.fuel : ∀ (d : Nat) (v : aG), oT d v → Fy v * 3 ≤ 89 * (4 ^ d - 1)
 | 0, v, h => h.elim
 | d + 1, v, ⟨h, hk⟩ => by
  rw [xB]
  have key : ∀ l : List aG, (∀ k, k ∈ l → oT d k) → Lx l * 3 ≤ l.length * (89 * (4 ^ d - 1)) := by
   intro l
   induction l with
   | nil => intro _; simp [Lx]
   | cons k l ih =>
    intro hl
    have h1 := oT.fuel d k (hl k (by simp))
    have h2 := ih fun x hx => hl x (by simp [hx])
    rw [Lx, List.length_cons, Nat.add_mul, Nat.add_mul]
    omega
  have h1 := key v.Kids hk
  have h2 : v.Kids.length * (89 * (4 ^ d - 1)) ≤ 4 * (89 * (4 ^ d - 1)) := Nat.mul_le_mul_right _ h.klen
  have h3 : 1 ≤ 4 ^ d := Nat.one_le_pow _ _ (by decide)
  have h4 := h.klen
  have h5 := h.alen
  have h6 := h.elen
  rw [Nat.pow_succ]
  omega
theorem oT.fuel4 {v : aG} (h : oT 4 v) : Fy v ≤ 8000 := by
 have := oT.fuel 4 v h
 omega
theorem Ye : (⟨#[]⟩ : ByteArray).size = 0 := rfl
theorem qG (k : Int) (h1 : -1099511627776 ≤ k) (h2 : k ≤ 1099511627776) (n : Nat) (hn : 100 ≤ n) (d p : Int) (hp : 0 ≤ p ∧ p ≤ 900) : dZ n ⟨1, k, (⟨#[]⟩ : ByteArray), []⟩ d p = some (aU.mk 1 [], 0, p + 1) := by
 obtain ⟨n, rfl⟩ : ∃ m, n = m + 1 := ⟨n - 1, by omega⟩
 have hw : IntKind.wrap .i64 (p + 1) = p + 1 := Go.Bm.aS (by omega) (by omega)
 have c1 : decide (k ≥ -1099511627776) = true := by simpa using h1
 have c2 : decide (k ≤ 1099511627776) = true := by simpa using h2
 have c3 : decide (p + 1 > 1000) = false := by simp; omega
 rw [dZ, eO]
 simp [iP, iM, aR, gd, eY, hw, c1, c2, c3, Ye, oD.prog n (by omega)]
 try omega
theorem pV (k : Int) (h1 : -1099511627776 ≤ k) (h2 : k ≤ 1099511627776) (n : Nat) (hn : 100 ≤ n) (d p : Int) (hp : 0 ≤ p ∧ p ≤ 900) : dG n ⟨1, k, (⟨#[]⟩ : ByteArray), []⟩ d p = some (aU.mk 1 [], p + 1, 0) := by
 obtain ⟨n, rfl⟩ : ∃ m, n = m + 1 := ⟨n - 1, by omega⟩
 have hw : IntKind.wrap .i64 (p + 1) = p + 1 := Go.Bm.aS (by omega) (by omega)
 have c1 : decide (k < -1099511627776) = false := by simp; omega
 have c2 : decide (k > 1099511627776) = false := by simp; omega
 have c3 : decide (p + 1 > 1000) = false := by simp; omega
 obtain ⟨n, rfl⟩ : ∃ m, n = m + 1 := ⟨n - 1, by omega⟩
 rw [dG, dU]
 simp [aR, gd, eY, hw, c1, c2, c3, Ye, oD.ref (n + 1) (by omega), eI]
 try omega
theorem Oc {x : aD} {t : aU} (h1 : ∀ n, 120 ≤ n → dZ n x 0 0 = some (t, 0, 1)) (h2 : ∀ n, 120 ≤ n → dG n x 1 0 = some (t, 1, 0)) (ht : t.Of = []) (hL : x.L = []) : Nq x := by
 refine ⟨fun n hn => ?_, fun n hn => ?_, fun n hn => ?_⟩
 ·unfold jM kY
  rw [h1 n (by omega)]
  obtain ⟨n, rfl⟩ : ∃ m, n = m + 1 := ⟨n - 1, by omega⟩
  simp [gA, jO, ht]
 ·unfold iO jV
  rw [h2 n (by omega)]
  rfl
 ·obtain ⟨n, rfl⟩ : ∃ m, n = m + 10 := ⟨n - 10, by omega⟩
  cases x with
  | mk k m s l =>
   simp only at hL
   subst hL
   kernel_rfl
theorem vS (k : Int) (h1 : -1099511627776 ≤ k) (h2 : k ≤ 1099511627776) : Nq ⟨1, k, (⟨#[]⟩ : ByteArray), []⟩ :=
 Oc (t := aU.mk 1 []) (fun n hn => qG k h1 h2 n (by omega) 0 0 (by omega)) (fun n hn => pV k h1 h2 n (by omega) 1 0 (by omega)) rfl rfl
theorem uJ (k : Int) (h : k = 0 ∨ k = 1) : Nq ⟨2, k, (⟨#[]⟩ : ByteArray), []⟩ := by
 refine Oc (t := aU.mk 2 []) (fun n hn => ?_) (fun n hn => ?_) rfl rfl
 ·obtain ⟨n, rfl⟩ : ∃ m, n = m + 1 := ⟨n - 1, by omega⟩
  have hw : IntKind.wrap .i64 ((0 : Int) + 1) = 1 := by decide
  have hw1 : IntKind.wrap .i64 (1 : Int) = 1 := by decide
  rw [dZ, eO]
  rcases h with rfl | rfl <;> simp [iP, iM, aR, gd, eY, hw, hw1, Ye, oD.prog n (by omega)]
 ·obtain ⟨n, rfl⟩ : ∃ m, n = m + 1 := ⟨n - 1, by omega⟩
  have hw : IntKind.wrap .i64 ((0 : Int) + 1) = 1 := by decide
  have hw1 : IntKind.wrap .i64 (1 : Int) = 1 := by decide
  obtain ⟨n, rfl⟩ : ∃ m, n = m + 1 := ⟨n - 1, by omega⟩
  rw [dG, dU]
  rcases h with rfl | rfl <;> simp [aR, gd, eY, hw, hw1, Ye, oD.ref (n + 1) (by omega), eI]
theorem sU (s : ByteArray) (h : Yd s) : Nq ⟨3, 0, s, []⟩ := by
 refine Oc (t := aU.mk 3 []) (fun n hn => ?_) (fun n hn => ?_) rfl rfl
 ·obtain ⟨n, rfl⟩ : ∃ m, n = m + 1 := ⟨n - 1, by omega⟩
  have hw : IntKind.wrap .i64 ((0 : Int) + 1) = 1 := by decide
  have hw1 : IntKind.wrap .i64 (1 : Int) = 1 := by decide
  have hs := h.size
  have c : decide ((s.size : Int) > 2000) = false := by simp; omega
  have c' : ¬ (2000 : Int) < (s.size : Int) := by omega
  rw [dZ, eO]
  simp [iP, iM, aR, gd, eY, hw, hw1, c', h.prog n (by omega)]
 ·obtain ⟨n, rfl⟩ : ∃ m, n = m + 1 := ⟨n - 1, by omega⟩
  have hw : IntKind.wrap .i64 ((0 : Int) + 1) = 1 := by decide
  have hw1 : IntKind.wrap .i64 (1 : Int) = 1 := by decide
  obtain ⟨n, rfl⟩ : ∃ m, n = m + 1 := ⟨n - 1, by omega⟩
  have hs := h.size
  have c' : ¬ (2000 : Int) < (s.size : Int) := by omega
  rw [dG, dU]
  simp [aR, gd, eY, hw, hw1, c', h.ref (n + 1) (by omega), eI]
end Go.Proofs.YtojkihhnioeggaaGreatDoor.S
