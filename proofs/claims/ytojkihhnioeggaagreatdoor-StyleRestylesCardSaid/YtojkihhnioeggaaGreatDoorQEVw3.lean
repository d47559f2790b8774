import Derived.Test.YtojkihhnioeggaaGreatDoorQEVw2
import Derived.Laws.Cover4
import Derived.WalkLawsBesides
import Derived.Deep.QuietTactic
import Derived.BigQuiet
import Derived.BigRegion
import Derived.Lib.Hide
import Derived.Deep.RegionWith
set_option linter.unusedSimpArgs false
set_option linter.all false
set_option linter.unusedVariables false
namespace Go.Proofs.YtojkihhnioeggaaGreatDoor.S
open Go Go.Bm
theorem mQ {s : ByteArray} (hs : s.size ≤ 2000) (h : Lib.validD s.data.toList = true) : TOk s := by
 refine ⟨hs, fun n _ => ?_, fun n _ => ?_⟩
 ·unfold utf8_ValidString
  rw [if_pos (by omega), h]
 ·unfold sM Da
  rw [if_pos (by omega)]
  simp only [oB, Jq s h, fR]
theorem vO {s : ByteArray} (h : eX 60 s = some true) : Um s := by
 obtain ⟨x, hx⟩ := name s
 obtain rfl : x = true := Option.some.inj ((hx 60 (by decide)).1.symm.trans h)
 exact ⟨fun n hn => (hx n (by omega)).1, fun n hn => (hx n (by omega)).2⟩
theorem qM : TOk nB := mQ (by decide) rfl
theorem Rw.fuel : ∀ (d : Nat) (v : aN), Rw d v → Cq v ≤ 93 * eU v
 | 0, v, h => h.elim
 | d + 1, v, ⟨h, hk⟩ => by
  rw [vX, jF]
  have key : ∀ l : List aN, (∀ k, k ∈ l → Rw d k) → Hm l ≤ 93 * bY l := by
   intro l
   induction l with
   | nil => intro _; simp [Hm, bY]
   | cons k l ih =>
    intro hl
    have h1 := Rw.fuel d k (hl k (by simp))
    have h2 := ih fun x hx => hl x (by simp [hx])
    rw [Hm, bY]
    omega
  have h1 := key v.Kids hk
  have h4 := h.klen
  have h5 := h.alen
  have h6 := h.elen
  omega
theorem VG.fuel4 {v : aN} (h : VG v) : Cq v ≤ 13950 := by
 have := Rw.fuel 13 v h.ok
 have := h.small
 omega
theorem sz0 : nB.size = 0 := rfl
theorem sP (k : Int) (h1 : -1099511627776 ≤ k) (h2 : k ≤ 1099511627776) (n : Nat) (hn : 100 ≤ n) (d p : Int) (hp : 0 ≤ p ∧ p ≤ 900) : eP n ⟨1, k, nB, []⟩ d p = some (bD.mk 1 [], 0, p + 1) := by
 obtain ⟨n, rfl⟩ := nS n (by omega)
 have hw : w6 (p + 1) = p + 1 := wS (by omega) (by omega)
 have c1 : decide (k ≥ -1099511627776) = true := by simpa using h1
 have c2 : decide (k ≤ 1099511627776) = true := by simpa using h2
 have c3 : decide (p + 1 > 1000) = false := by simp; omega
 rw [eP, fD]
 simp [jV, jR, aS, gd, fR, hw, c1, c2, c3, sz0, qM.prog n (by omega)]
 try omega
theorem sG (k : Int) (h1 : -1099511627776 ≤ k) (h2 : k ≤ 1099511627776) (n : Nat) (hn : 100 ≤ n) (d p : Int) (hp : 0 ≤ p ∧ p ≤ 900) : dT n ⟨1, k, nB, []⟩ d p = some (bD.mk 1 [], p + 1, 0) := by
 obtain ⟨n, rfl⟩ := nS n (by omega)
 have hw : w6 (p + 1) = p + 1 := wS (by omega) (by omega)
 have c1 : decide (k < -1099511627776) = false := by simp; omega
 have c2 : decide (k > 1099511627776) = false := by simp; omega
 have c3 : decide (p + 1 > 1000) = false := by simp; omega
 obtain ⟨n, rfl⟩ := nS n (by omega)
 rw [dT, eH]
 simp [aS, gd, fR, hw, c1, c2, c3, sz0, qM.ref (n + 1) (by omega), fA]
 try omega
theorem Sm {x : aP} {t : bD} (h1 : ∀ n, 120 ≤ n → eP n x 0 0 = some (t, 0, 1)) (h2 : ∀ n, 120 ≤ n → dT n x 1 0 = some (t, 1, 0)) (ht : t.Of = []) (hL : x.L = []) : Rv x := by
 refine ⟨fun n hn => ?_, fun n hn => ?_, fun n hn => ?_⟩
 ·unfold lF mP
  rw [h1 n (by omega)]
  obtain ⟨n, rfl⟩ := nS n (by omega)
  simp [hY, lI, ht]
 ·unfold jU lP
  rw [h2 n (by omega)]
  rfl
 ·obtain ⟨n, rfl⟩ : ∃ m, n = m + 10 := ⟨n - 10, by omega⟩
  cases x with
  | mk k m s l =>
   simp only at hL
   subst hL
   kernel_rfl
theorem yI (k : Int) (h1 : -1099511627776 ≤ k) (h2 : k ≤ 1099511627776) : Rv ⟨1, k, nB, []⟩ :=
 Sm (t := bD.mk 1 []) (fun n hn => sP k h1 h2 n (by omega) 0 0 (by omega)) (fun n hn => sG k h1 h2 n (by omega) 1 0 (by omega)) rfl rfl
theorem xB (k : Int) (h : k = 0 ∨ k = 1) : Rv ⟨2, k, nB, []⟩ := by
 refine Sm (t := bD.mk 2 []) (fun n hn => ?_) (fun n hn => ?_) rfl rfl
 ·obtain ⟨n, rfl⟩ := nS n (by omega)
  have hw : w6 ((0 : Int) + 1) = 1 := by decide
  have hw1 : w6 (1 : Int) = 1 := by decide
  rw [eP, fD]
  rcases h with rfl | rfl <;> simp [jV, jR, aS, gd, fR, hw, hw1, sz0, qM.prog n (by omega)]
 ·obtain ⟨n, rfl⟩ := nS n (by omega)
  have hw : w6 ((0 : Int) + 1) = 1 := by decide
  have hw1 : w6 (1 : Int) = 1 := by decide
  obtain ⟨n, rfl⟩ := nS n (by omega)
  rw [dT, eH]
  rcases h with rfl | rfl <;> simp [aS, gd, fR, hw, hw1, sz0, qM.ref (n + 1) (by omega), fA]
theorem vE (s : ByteArray) (h : TOk s) : Rv ⟨3, 0, s, []⟩ := by
 refine Sm (t := bD.mk 3 []) (fun n hn => ?_) (fun n hn => ?_) rfl rfl
 ·obtain ⟨n, rfl⟩ := nS n (by omega)
  have hw : w6 ((0 : Int) + 1) = 1 := by decide
  have hw1 : w6 (1 : Int) = 1 := by decide
  have hs := h.size
  have c : decide ((s.size : Int) > 2000) = false := by simp; omega
  have c' : ¬ (2000 : Int) < (s.size : Int) := by omega
  rw [eP, fD]
  simp [jV, jR, aS, gd, fR, hw, hw1, c', h.prog n (by omega)]
 ·obtain ⟨n, rfl⟩ := nS n (by omega)
  have hw : w6 ((0 : Int) + 1) = 1 := by decide
  have hw1 : w6 (1 : Int) = 1 := by decide
  obtain ⟨n, rfl⟩ := nS n (by omega)
  have hs := h.size
  have c' : ¬ (2000 : Int) < (s.size : Int) := by omega
  rw [dT, eH]
  simp [aS, gd, fR, hw, hw1, c', h.ref (n + 1) (by omega), fA]
end Go.Proofs.YtojkihhnioeggaaGreatDoor.S
