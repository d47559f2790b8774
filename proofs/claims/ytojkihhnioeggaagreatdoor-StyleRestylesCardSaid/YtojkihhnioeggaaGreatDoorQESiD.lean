import Derived.Test.YtojkihhnioeggaaGreatDoorQEGM13
import Derived.Test.YtojkihhnioeggaaGreatDoorQEDr9
import Derived.WalkLawsBesides
import Derived.Deep.QuietTactic
import Derived.BigQuiet
import Derived.BigRegion
import Derived.Lib.Hide
import Derived.Deep.RegionWith
set_option linter.unusedSimpArgs false
set_option linter.all false
set_option linter.unusedVariables false
namespace Go.Proofs.YtojkihhnioeggaaGreatDoor.S
open Go Go.Bm
theorem Mj (s : ByteArray) (hs : s.size ≤ 24) (j : Unit → Option Bool) (hj : ∃ b, j () = some b) : ∀ (k : Nat) (v : Int), v = (s.size : Int) - k → 1 ≤ v → ∃ x, ∀ n, k < n → fE s j n v = some x ∧ hZ s j n v = some x
 | 0, v, hv, _ => by
  obtain ⟨b, hb⟩ := hj
  refine ⟨b, fun n hn => ?_⟩
  obtain ⟨n, rfl⟩ := nS n (by omega)
  exact ⟨by rw [fE, if_neg (by simp; omega), hb], by rw [hZ, if_neg (by simp; omega), hb]⟩
 | k + 1, v, hv, h1 => by
  obtain ⟨x, hx⟩ := Mj s hs j hj k (v + 1) (by omega) (by omega)
  have hw : w6 (v + 1) = v + 1 := wS (by omega) (by omega)
  obtain ⟨u, hu⟩ := Ky s v (by omega) (by omega)
  have hv0 : (v == 0) = false := by simp; omega
  have key : (∃ x, ∀ n, k < n → (if ((!((decide (u ≥ 97) && decide (u ≤ 122)) || (decide (u ≥ 65) && decide (u ≤ 90)))) && ((((decide (u < 48)) || (decide (u > 57))) && (u != 45)) && (u != 95))) = true then some false else fE s j n (v + 1)) = some x ∧ (if ((!((decide (u ≥ 97) && decide (u ≤ 122)) || (decide (u ≥ 65) && decide (u ≤ 90)))) && ((((decide (u < 48)) || (decide (u > 57))) && (u != 45)) && (u != 95))) = true then some false else hZ s j n (v + 1)) = some x) := by
   split
   ·exact ⟨false, fun n hn => ⟨rfl, rfl⟩⟩
   ·exact ⟨x, hx⟩
  obtain ⟨y, hy⟩ := key
  refine ⟨y, fun n hn => ?_⟩
  obtain ⟨n, rfl⟩ := nS n (by omega)
  obtain ⟨hy1, hy2⟩ := hy n (by omega)
  rw [fE, hZ, if_pos (by simp; omega), if_pos (by simp; omega)]
  simp only [hu, oB, nN, hw, hv0, Bool.false_or]
  refine ⟨hy1, ?_⟩
  rw [← hy2]
  generalize ((decide (u ≥ 97) && decide (u ≤ 122)) || (decide (u ≥ 65) && decide (u ≤ 90))) = L
  cases L
  ·by_cases h1 : u < 48
   ·have h1' : ¬ 48 ≤ u := by omega
    by_cases h3 : u = 45
    ·subst h3; simp [gd]
    ·have h4 : ¬ u = 95 := by omega
     simp [gd, h1, h1', h3, h4]
   ·have h1' : 48 ≤ u := by omega
    by_cases h2 : u > 57
    ·have h3 : ¬ u = 45 := by omega
     by_cases h4 : u = 95
     ·subst h4; simp [gd]
     ·simp [gd, h1, h1', h2, h3, h4]
    ·have h3 : ¬ u = 45 := by omega
     have h2' : ¬ 57 < u := by omega
     simp [gd, h1, h1', h2, h2', h3]
  ·simp [gd]
theorem name (s : ByteArray) : ∃ x, ∀ n, 26 ≤ n → eX n s = some x ∧ eD n s = some x := by
 by_cases h0 : s.size = 0
 ·refine ⟨false, fun n hn => ⟨?_, ?_⟩⟩
  ·rw [eX, if_pos (by simp [h0])]
  ·unfold eD
   simp [gd, h0]
 by_cases h1 : (s.size : Int) > 24
 ·refine ⟨false, fun n hn => ⟨?_, ?_⟩⟩
  ·rw [eX, if_pos (by simp [h1])]
  ·unfold eD
   have h1' : 24 < (s.size : Int) := by omega
   have h2' : ¬ (s.size : Int) ≤ 24 := by omega
   simp [gd, h1', h2']
 have c1 : decide ((s.size : Int) < 1) = false := by simp; omega
 have c2 : decide ((s.size : Int) > 24) = false := by simp; omega
 have c3 : ((s.size : Int) == 0) = false := by rw [beq_eq_false_iff_ne]; omega
 obtain ⟨u, hu⟩ := Ky s 0 (by omega) (by omega)
 obtain ⟨x, hx⟩ := Mj s (by omega) (fun _ => some true) ⟨true, rfl⟩ (s.size - 1) 1 (by omega) (by omega)
 refine ⟨if (decide (u ≥ 97) && decide (u ≤ 122) || decide (u ≥ 65) && decide (u ≤ 90)) = true then x else false, fun n hn => ?_⟩
 unfold eX eD
 simp only [c1, c2, c3, Bool.or_self, Bool.not_false, fT, if_false, gd, List.all_cons, List.all_nil, id, Bool.and_true, if_true, hu, oB, nN, Bool.false_or]
 unfold aS
 obtain ⟨m, rfl⟩ : ∃ m, n = m + 1 := ⟨n - 1, by omega⟩
 have hw : w6 (0 + 1) = 1 := by decide
 have e0 : fE s (fun _ => some true) (m + 1) 0 = if ((!((decide (u ≥ 97) && decide (u ≤ 122)) || (decide (u ≥ 65) && decide (u ≤ 90))))) = true then some false else fE s (fun _ => some true) m 1 := by
  rw [fE, if_pos (by simp; omega)]
  simp only [hu, oB, hw, beq_self_eq_true, Bool.true_or, Bool.and_true]
 show fE s (fun _ => some true) (m + 1) 0 = _ ∧ (if _ then _ else hZ s (fun _ => some true) (m + 1) 1) = _
 rw [e0]
 generalize (decide (u ≥ 97) && decide (u ≤ 122) || decide (u ≥ 65) && decide (u ≤ 90)) = L
 cases L
 ·exact ⟨by simp, by simp⟩
 ·have h1 := (hx m (by omega)).1
  have h2 := (hx (m + 1) (by omega)).2
  exact ⟨by simpa using h1, by simpa using h2⟩
structure bR (p : aW) : Prop where
 lo : 0 ≤ p.At
 hi : p.At ≤ p.L.length
 len : p.L.length ≤ 4000
theorem cO (n : Nat) {p : aW} {k : Int} (h : bR p) (hk : k ≤ 1000000000000) : jP (cF n p k) fun y => 0 ≤ y.1 ∧ (1 ≤ k → y.1 < k) ∧ bR y.2 := by
 unfold cF
 refine bO (fun _ => bZ ⟨Int.le_refl _, fun h => by omega, h⟩) fun hc => ?_
 simp only [Bool.or_eq_false_iff, decide_eq_false_iff_not] at hc
 obtain ⟨c1, c2⟩ := hc
 have h0 := h.lo
 have h1 := h.hi
 have h2 := h.len
 refine aK (mG h0 (by omega)) fun e _ => ?_
 have hnz : nz k = some k := by unfold nz; rw [if_neg (by omega)]
 rw [hnz]
 refine aK (P := fun d => d = k) (bZ rfl) fun d hd => ?_
 unfold aS
 have b1 : Int.tmod e k < k := Int.tmod_lt_of_pos e (by omega)
 have b2 : -k < Int.tmod e k := Int.lt_tmod_of_pos e (by omega)
 have hw : w6 (p.At + 1) = p.At + 1 := wS (by omega) (by omega)
 have ok : bR (aW.mk p.L (w6 (p.At + 1))) := by
  rw [hw]
  exact ⟨by show 0 ≤ p.At + 1; omega, by show p.At + 1 ≤ (p.L.length : Int); omega, h2⟩
 refine bO (fun ht => ?_) fun ht => ?_
 ·simp only [decide_eq_true_eq] at ht
  have ao : w6 (Int.tmod e k + k) = Int.tmod e k + k := wS (by omega) (by omega)
  exact bZ ⟨by show 0 ≤ w6 (Int.tmod e k + k); omega, fun _ => by show w6 (Int.tmod e k + k) < k; omega, ok⟩
 ·simp only [decide_eq_false_iff_not] at ht
  exact bZ ⟨by show 0 ≤ Int.tmod e k; omega, fun _ => b1, ok⟩
theorem Cz (n : Nat) {p : aW} {lo hi : Int} (h : bR p) (h1 : -1000000 ≤ lo) (h2 : hi ≤ 1000000000) (h3 : lo ≤ hi) : jP (oR n p lo hi) fun y => lo ≤ y.1 ∧ y.1 ≤ hi ∧ bR y.2 := by
 unfold oR
 have e1 : w6 (hi - lo) = hi - lo := wS (by omega) (by omega)
 have e2 : w6 (hi - lo + 1) = hi - lo + 1 := wS (by omega) (by omega)
 rw [e1, e2]
 refine aK (cO n h (by omega)) fun y ⟨a, b, c⟩ => ?_
 have b := b (by omega)
 have e3 : w6 (lo + y.1) = lo + y.1 := by
  rw [wJ]
  omega
 rw [e3]
 exact bZ ⟨by show lo ≤ lo + y.1; omega, by show lo + y.1 ≤ hi; omega, c⟩
theorem src_New (n : Nat) (l : List Int) : jP (xW n l) bR := by
 unfold xW aS
 refine bO (fun hc => ?_) fun hc => ?_
 ·simp only [decide_eq_true_eq] at hc
  have : Bm.Fd l 0 4000 = some ((l.take (4000 : Int).toNat).drop (0 : Int).toNat) := by
   unfold Bm.Fd
   rw [if_pos ⟨Int.le_refl _, by decide, by omega⟩]
  rw [this]
  exact bZ ⟨Int.le_refl _, by simp, by simp; omega⟩
 ·simp only [decide_eq_false_iff_not] at hc
  exact bZ ⟨Int.le_refl _, by simp, by show l.length ≤ 4000; omega⟩
end Go.Proofs.YtojkihhnioeggaaGreatDoor.S
