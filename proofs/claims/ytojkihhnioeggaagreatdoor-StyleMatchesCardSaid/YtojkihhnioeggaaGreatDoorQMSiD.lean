import Derived.Test.YtojkihhnioeggaaGreatDoorQMGJ11
import Derived.Test.YtojkihhnioeggaaGreatDoorQMDr9
import Derived.WalkKit
import Derived.WalkSpells
import Derived.WalkLawsBesides
import Derived.Deep.QuietTactic
import Derived.BigQuiet
import Derived.BigRegion
import Derived.Lib.Hide
import Derived.Deep.RegionWith
set_option linter.unusedSimpArgs false
set_option linter.unusedVariables false
set_option linter.unusedSimpArgs false
set_option linter.unusedVariables false
namespace Go.Proofs.YtojkihhnioeggaaGreatDoor.S
open Go Go.Bm
theorem Gk (s : ByteArray) (hs : s.size ≤ 24) (j : Unit → Option Bool) (hj : ∃ b, j () = some b) : ∀ (k : Nat) (v : Int), v = (s.size : Int) - k → 1 ≤ v → ∃ x, ∀ n, k < n → eI s j n v = some x ∧ fX s j n v = some x
 | 0, v, hv, _ => by
  obtain ⟨b, hb⟩ := hj
  refine ⟨b, fun n hn => ?_⟩
  obtain ⟨n, rfl⟩ : ∃ m, n = m + 1 := ⟨n - 1, by omega⟩
  exact ⟨by rw [eI, if_neg (by simp; omega), hb], by rw [fX, if_neg (by simp; omega), hb]⟩
 | k + 1, v, hv, h1 => by
  obtain ⟨x, hx⟩ := Gk s hs j hj k (v + 1) (by omega) (by omega)
  have hw : IntKind.wrap .i64 (v + 1) = v + 1 := Go.Bm.bB (by omega) (by omega)
  obtain ⟨u, hu⟩ := Gv s v (by omega) (by omega)
  have hv0 : (v == 0) = false := by simp; omega
  have key : (∃ x, ∀ n, k < n → (if ((!((decide (u ≥ 97) && decide (u ≤ 122)) || (decide (u ≥ 65) && decide (u ≤ 90)))) && ((((decide (u < 48)) || (decide (u > 57))) && (u != 45)) && (u != 95))) = true then some false else eI s j n (v + 1)) = some x ∧ (if ((!((decide (u ≥ 97) && decide (u ≤ 122)) || (decide (u ≥ 65) && decide (u ≤ 90)))) && ((((decide (u < 48)) || (decide (u > 57))) && (u != 45)) && (u != 95))) = true then some false else fX s j n (v + 1)) = some x) := by
   split
   ·exact ⟨false, fun n hn => ⟨rfl, rfl⟩⟩
   ·exact ⟨x, hx⟩
  obtain ⟨y, hy⟩ := key
  refine ⟨y, fun n hn => ?_⟩
  obtain ⟨n, rfl⟩ : ∃ m, n = m + 1 := ⟨n - 1, by omega⟩
  obtain ⟨hy1, hy2⟩ := hy n (by omega)
  rw [eI, fX, if_pos (by simp; omega), if_pos (by simp; omega)]
  simp only [hu, Option.bind_some, lC, hw, hv0, Bool.false_or]
  refine ⟨hy1, ?_⟩
  rw [← hy2]
  generalize ((decide (u ≥ 97) && decide (u ≤ 122)) || (decide (u ≥ 65) && decide (u ≤ 90))) = L
  cases L
  ·by_cases h1 : u < 48
   ·have h1' : ¬ 48 ≤ u := by omega
    by_cases h3 : u = 45
    ·subst h3; simp [gd]
    ·have h4 : ¬ u = 95 := by omega
     simp [gd, h1, h1', h3, h4]
   ·have h1' : 48 ≤ u := by omega
    by_cases h2 : u > 57
    ·have h3 : ¬ u = 45 := by omega
     by_cases h4 : u = 95
     ·subst h4; simp [gd]
     ·simp [gd, h1, h1', h2, h3, h4]
    ·have h3 : ¬ u = 45 := by omega
     have h2' : ¬ 57 < u := by omega
     simp [gd, h1, h1', h2, h2', h3]
  ·simp [gd]
theorem name (s : ByteArray) : ∃ x, ∀ n, 26 ≤ n → fO n s = some x ∧ iX n s = some x := by
 by_cases h0 : s.size = 0
 ·refine ⟨false, fun n hn => ⟨?_, ?_⟩⟩
  ·rw [fO, if_pos (by simp [h0])]
  ·unfold iX
   simp [gd, h0]
 by_cases h1 : (s.size : Int) > 24
 ·refine ⟨false, fun n hn => ⟨?_, ?_⟩⟩
  ·rw [fO, if_pos (by simp [h1])]
  ·unfold iX
   have h1' : 24 < (s.size : Int) := by omega
   have h2' : ¬ (s.size : Int) ≤ 24 := by omega
   simp [gd, h1', h2']
 have c1 : decide ((s.size : Int) < 1) = false := by simp; omega
 have c2 : decide ((s.size : Int) > 24) = false := by simp; omega
 have c3 : ((s.size : Int) == 0) = false := by rw [beq_eq_false_iff_ne]; omega
 obtain ⟨u, hu⟩ := Gv s 0 (by omega) (by omega)
 obtain ⟨x, hx⟩ := Gk s (by omega) (fun _ => some true) ⟨true, rfl⟩ (s.size - 1) 1 (by omega) (by omega)
 refine ⟨if (decide (u ≥ 97) && decide (u ≤ 122) || decide (u ≥ 65) && decide (u ≤ 90)) = true then x else false, fun n hn => ?_⟩
 unfold fO iX
 simp only [c1, c2, c3, Bool.or_self, Bool.not_false, Bool.false_eq_true, if_false, gd, List.all_cons, List.all_nil, id, Bool.and_true, if_true, hu, Option.bind_some, lC, Bool.false_or]
 unfold aV
 obtain ⟨m, rfl⟩ : ∃ m, n = m + 1 := ⟨n - 1, by omega⟩
 have hw : IntKind.wrap .i64 (0 + 1) = 1 := by decide
 have e0 : eI s (fun _ => some true) (m + 1) 0 = if ((!((decide (u ≥ 97) && decide (u ≤ 122)) || (decide (u ≥ 65) && decide (u ≤ 90))))) = true then some false else eI s (fun _ => some true) m 1 := by
  rw [eI, if_pos (by simp; omega)]
  simp only [hu, Option.bind_some, hw, beq_self_eq_true, Bool.true_or, Bool.and_true]
 show eI s (fun _ => some true) (m + 1) 0 = _ ∧ (if _ then _ else fX s (fun _ => some true) (m + 1) 1) = _
 rw [e0]
 generalize (decide (u ≥ 97) && decide (u ≤ 122) || decide (u ≥ 65) && decide (u ≤ 90)) = L
 cases L
 ·exact ⟨by simp, by simp⟩
 ·have h1 := (hx m (by omega)).1
  have h2 := (hx (m + 1) (by omega)).2
  exact ⟨by simpa using h1, by simpa using h2⟩
structure bM (p : aP) : Prop where
 lo : 0 ≤ p.At
 hi : p.At ≤ p.L.length
 len : p.L.length ≤ 4000
theorem cM (n : Nat) {p : aP} {k : Int} (h : bM p) (hk : k ≤ 1000000000000) : lJ (cH n p k) fun y => 0 ≤ y.1 ∧ (1 ≤ k → y.1 < k) ∧ bM y.2 := by
 unfold cH
 refine bJ (fun _ => bW ⟨Int.le_refl _, fun h => by omega, h⟩) fun hc => ?_
 simp only [Bool.or_eq_false_iff, decide_eq_false_iff_not] at hc
 obtain ⟨c1, c2⟩ := hc
 have h0 := h.lo
 have h1 := h.hi
 have h2 := h.len
 refine aN (lW h0 (by omega)) fun e _ => ?_
 have hnz : nz k = some k := by unfold nz; rw [if_neg (by omega)]
 rw [hnz]
 refine aN (P := fun d => d = k) (bW rfl) fun d hd => ?_
 unfold aV
 have b1 : Int.tmod e k < k := Int.tmod_lt_of_pos e (by omega)
 have b2 : -k < Int.tmod e k := Int.lt_tmod_of_pos e (by omega)
 have hw : IntKind.wrap .i64 (p.At + 1) = p.At + 1 := Go.Bm.bB (by omega) (by omega)
 have ok : bM (aP.mk p.L (IntKind.wrap .i64 (p.At + 1))) := by
  rw [hw]
  exact ⟨by show 0 ≤ p.At + 1; omega, by show p.At + 1 ≤ (p.L.length : Int); omega, h2⟩
 refine bJ (fun ht => ?_) fun ht => ?_
 ·simp only [decide_eq_true_eq] at ht
  have hw2 : IntKind.wrap .i64 (Int.tmod e k + k) = Int.tmod e k + k := Go.Bm.bB (by omega) (by omega)
  exact bW ⟨by show 0 ≤ IntKind.wrap .i64 (Int.tmod e k + k); omega, fun _ => by show IntKind.wrap .i64 (Int.tmod e k + k) < k; omega, ok⟩
 ·simp only [decide_eq_false_iff_not] at ht
  exact bW ⟨by show 0 ≤ Int.tmod e k; omega, fun _ => b1, ok⟩
theorem zH (n : Nat) {p : aP} {lo hi : Int} (h : bM p) (h1 : -1000000 ≤ lo) (h2 : hi ≤ 1000000000) (h3 : lo ≤ hi) : lJ (mE n p lo hi) fun y => lo ≤ y.1 ∧ y.1 ≤ hi ∧ bM y.2 := by
 unfold mE
 have e1 : IntKind.wrap .i64 (hi - lo) = hi - lo := Go.Bm.bB (by omega) (by omega)
 have e2 : IntKind.wrap .i64 (hi - lo + 1) = hi - lo + 1 := Go.Bm.bB (by omega) (by omega)
 rw [e1, e2]
 refine aN (cM n h (by omega)) fun y ⟨a, b, c⟩ => ?_
 have b := b (by omega)
 have e3 : IntKind.wrap .i64 (lo + y.1) = lo + y.1 := by
  rw [IntKind.wrap_i64]
  omega
 rw [e3]
 exact bW ⟨by show lo ≤ lo + y.1; omega, by show lo + y.1 ≤ hi; omega, c⟩
theorem Vh (n : Nat) (l : List Int) : lJ (uR n l) bM := by
 unfold uR aV
 refine bJ (fun hc => ?_) fun hc => ?_
 ·simp only [decide_eq_true_eq] at hc
  have : Pb l 0 4000 = some ((l.take (4000 : Int).toNat).drop (0 : Int).toNat) := by
   unfold Pb
   rw [if_pos ⟨Int.le_refl _, by decide, by omega⟩]
  rw [this]
  exact bW ⟨Int.le_refl _, by simp, by simp; omega⟩
 ·simp only [decide_eq_false_iff_not] at hc
  exact bW ⟨Int.le_refl _, by simp, by show l.length ≤ 4000; omega⟩
end Go.Proofs.YtojkihhnioeggaaGreatDoor.S
