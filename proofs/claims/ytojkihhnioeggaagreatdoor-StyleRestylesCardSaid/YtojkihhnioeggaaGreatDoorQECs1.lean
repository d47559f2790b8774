import Derived.Test.YtojkihhnioeggaaGreatDoorQEMq
import Derived.WalkLawsBesides
import Derived.Deep.QuietTactic
import Derived.BigQuiet
import Derived.BigRegion
import Derived.Lib.Hide
import Derived.Deep.RegionWith
set_option linter.unusedSimpArgs false
set_option linter.all false
set_option linter.unusedVariables false
namespace Go.Proofs.YtojkihhnioeggaaGreatDoor.S
open Go Go.Bm
def tkv (m : cX) (t : fJ) : Int := if (m.High && m.Dark) = true then t.HighDark else if m.High = true then t.HighLight else if m.Dark = true then t.Dark else t.Light
def Sa (m : cX) (nm : ByteArray) : List fJ → Int × Bool
 | [] => (0, false)
 | t :: l => if bP t.Name nm = true then (tkv m t, true) else Sa m nm l
theorem Mq (th : bS) (nm : ByteArray) (m : cX) (hz : th.Tokens.length ≤ 1000) : ∀ (l pre : List fJ) (n : Nat) (q : Int), th.Tokens = pre ++ l → q = pre.length → l.length < n → iH th nm m (fun _ => some (0, false)) n q = some (Sa m nm l) ∧ iN th nm m (fun _ => some (0, false)) n q = some (Sa m nm l)
 | [], pre, n, q, ht, hq, hn => by
  obtain ⟨n, rfl⟩ := nS n (by simp at hn; omega)
  have ab : th.Tokens.length = pre.length := by rw [ht]; simp
  exact ⟨by rw [iH, if_neg (by simp; omega)]; rfl, by rw [iN, if_neg (by simp; omega)]; rfl⟩
 | x :: l, pre, n, q, ht, hq, hn => by
  obtain ⟨n, rfl⟩ := nS n (by simp at hn; omega)
  have ab : th.Tokens.length = pre.length + (l.length + 1) := by rw [ht]; simp
  have hw : w6 (q + 1) = q + 1 := wS (by omega) (by omega)
  rw [iH, iN, if_pos (by simp; omega), if_pos (by simp; omega), kI ht hq]
  simp only [oB, hw, Sa]
  cases hs : bP x.Name nm
  ·simp only [Bool.not_false, if_true, fT, if_false]
   exact Mq th nm m hz l (pre ++ [x]) n (q + 1) (by rw [ht]; simp) (by simp; omega) (by simp at hn; omega)
  ·simp only [Bool.not_true, fT, if_false, if_true, tkv]
   cases m.High <;> cases m.Dark <;> exact ⟨rfl, rfl⟩
theorem Wf (th : bS) (hz : th.Tokens.length ≤ 1000) (m : cX) (nm : ByteArray) (n : Nat) (hn : 1010 ≤ n) : pS n th m nm = some (Sa m nm th.Tokens) ∧ pJ n th m nm = some (Sa m nm th.Tokens) := by
 unfold pS pJ aS
 exact Mq th nm m hz th.Tokens [] n 0 rfl rfl (by omega)
theorem Qd {a b : Int} (ha : 0 ≤ a) : decide (Int.tmod a b < 0) = false := by
 have := Int.tmod_nonneg b ha
 simp; omega
theorem size_eq (m : cX) (x : Int) : ∃ r, (1 ≤ r ∧ r ≤ 1000) ∧ ∀ n, nD n m x = some r ∧ oF n m x = some r := by
 have clamp : ∀ v : Int, ∃ r, (1 ≤ r ∧ r ≤ 1000) ∧ ∀ n, ((mZ n v 1 1000).bind fun (y4 : Int) => some y4) = some r ∧ ((lA n v 1 1000).bind fun (y4 : Int) => some y4) = some r := fun v => by
  by_cases h1 : v < 1
  ·exact ⟨1, by decide, fun n => by unfold mZ lA; simp [h1]⟩
  ·by_cases h2 : v > 1000
   ·exact ⟨1000, by decide, fun n => by unfold mZ lA; simp [h1, h2]⟩
   ·exact ⟨v, by omega, fun n => by unfold mZ lA; simp [h1, h2]⟩
 by_cases hc : (50 ≤ m.Scale ∧ m.Scale ≤ 400) ∧ 1 ≤ x ∧ x ≤ 1000
 ·obtain ⟨⟨c1, c2⟩, c3, c4⟩ := hc
  have hp : 0 ≤ x * m.Scale := Int.mul_nonneg (by omega) (by omega)
  have hq : x * m.Scale ≤ 1000 * 400 := Int.mul_le_mul c4 c2 (by omega) (by omega)
  obtain ⟨r, hr, hb⟩ := clamp ((x * m.Scale * 2 + 100) / 200)
  refine ⟨r, hr, fun n => ?_⟩
  obtain ⟨b1, b2⟩ := hb n
  have w1 : w6 (x * m.Scale) = x * m.Scale := wS (by omega) (by omega)
  have w2 : w6 (2 * (x * m.Scale)) = 2 * (x * m.Scale) := wS (by omega) (by omega)
  have w3 : w6 (2 * (x * m.Scale) + 100) = 2 * (x * m.Scale) + 100 := wS (by omega) (by omega)
  have d1 : qP n x m.Scale 100 = some ((x * m.Scale * 2 + 100) / 200, 0) := by
   unfold qP tO Ap aS tQ
   have e1 : ((((((decide (x < (-1099511627776 : Int))) || (decide (x > 1099511627776))) || (decide (m.Scale < 0))) || (decide (m.Scale > 65536))) || (decide ((100 : Int) < 1))) || (decide ((100 : Int) > 65536))) = false := by simp; omega
   have e2 : ((((((100 : Int) != 0) && decide (x * m.Scale ≥ (-1152921504606846976 : Int))) && decide (x * m.Scale ≤ 1152921504606846976)) && decide ((100 : Int) ≥ -1152921504606846976)) && decide ((100 : Int) ≤ 1152921504606846976)) = true := by simp; omega
   have e3 : Int.tdiv (2 * (x * m.Scale) + 100) 200 = (x * m.Scale * 2 + 100) / 200 := by rw [Int.tdiv_eq_ediv_of_nonneg (by omega), Int.mul_comm 2]
   have w4 : w6 ((x * m.Scale * 2 + 100) / 200) = (x * m.Scale * 2 + 100) / 200 := wS (by omega) (by omega)
   rw [w1, e1]
   simp only [fT, if_false, oB, e2, Bool.not_true, show decide ((100 : Int) < 0) = false from rfl, w2, w3, show w6 (2 * 100) = 200 by decide, show nz 200 = some 200 from rfl, aS, Qd (show 0 ≤ 2 * (x * m.Scale) + 100 by omega), e3, w4]
  have d2 : qS n x m.Scale 100 = some ((x * m.Scale * 2 + 100) / 200, 0) := by
   unfold qS tP aS
   have e1 : ((((((decide (x < (-1099511627776 : Int))) || (decide (x > 1099511627776))) || (decide (m.Scale < 0))) || (decide (m.Scale > 65536))) || (decide ((100 : Int) < 1))) || (decide ((100 : Int) > 65536))) = false := by simp; omega
   have e2 : ((((((100 : Int) == 0) || decide (x * m.Scale < (-1152921504606846976 : Int))) || decide (x * m.Scale > 1152921504606846976)) || decide ((100 : Int) < -1152921504606846976)) || decide ((100 : Int) > 1152921504606846976)) = false := by simp; omega
   have t1 : Int.tmod (x * m.Scale) 100 = (x * m.Scale) % 100 := Int.tmod_eq_emod_of_nonneg hp
   have t2 : Int.tdiv (x * m.Scale) 100 = (x * m.Scale) / 100 := Int.tdiv_eq_ediv_of_nonneg hp
   have w4 : w6 ((x * m.Scale) / 100) = (x * m.Scale) / 100 := wS (by omega) (by omega)
   have w5 : w6 ((x * m.Scale) / 100 + 1) = (x * m.Scale) / 100 + 1 := wS (by omega) (by omega)
   have w6 : w6 (100 - (x * m.Scale) % 100) = 100 - (x * m.Scale) % 100 := wS (by omega) (by omega)
   rw [w1, e1]
   simp only [fT, if_false, oB, e2, show decide ((100 : Int) < 0) = false from rfl, show nz 100 = some 100 from rfl, Qd hp]
   rw [t1, t2, w4, w5, w6]
   by_cases h : (x * m.Scale) % 100 ≥ 100 - (x * m.Scale) % 100
   ·rw [if_pos (by simpa using h)]
    simp only [oB]
    congr 2
    omega
   ·rw [if_neg (by simpa using h)]
    simp only [oB]
    congr 2
    omega
  unfold nD oF aS
  have e1 : ((((decide (m.Scale ≥ 50)) && (decide (m.Scale ≤ 400))) && (decide (x ≥ 1))) && (decide (x ≤ 1000))) = true := by simp; omega
  have e2 : ((((decide (m.Scale < 50)) || (decide (m.Scale > 400))) || (decide (x < 1))) || (decide (x > 1000))) = false := by simp; omega
  rw [e1, e2, d1, d2]
  exact ⟨b1, b2⟩
 ·obtain ⟨r, hr, hb⟩ := clamp x
  refine ⟨r, hr, fun n => ?_⟩
  obtain ⟨b1, b2⟩ := hb n
  unfold nD oF aS
  have e1 : ((((decide (m.Scale ≥ 50)) && (decide (m.Scale ≤ 400))) && (decide (x ≥ 1))) && (decide (x ≤ 1000))) = false := by simp; omega
  have e2 : ((((decide (m.Scale < 50)) || (decide (m.Scale > 400))) || (decide (x < 1))) || (decide (x > 1000))) = true := by simp; omega
  rw [e1, e2]
  exact ⟨b1, b2⟩
def siz (m : cX) (x : Int) : Int := (nD 0 m x).getD 0
theorem Oh (m : cX) (x : Int) (n : Nat) : nD n m x = some (siz m x) ∧ oF n m x = some (siz m x) := by
 obtain ⟨r, _, h⟩ := size_eq m x
 unfold siz
 rw [(h 0).1]
 exact h n
theorem pop_all (r : cM) (s : Int) (h : 0 ≤ s ∧ s ≤ 31) : ∃ c, (0 ≤ c ∧ c ≤ 5) ∧ ∀ (v : Int), (v = 0 ∨ v = 1 ∨ v = 2) → ∀ (n : Nat), (∀ j, fC j r (n + 40) s v = j (v + c)) ∧ (r.States = s → ∀ j, fF r j (n + 40) v 1 = j (v + c)) := by
 have key : ∀ (s c : Int), (∀ (n : Nat) j, fC j r (n + 40) s 0 = j (0 + c)) → (∀ (n : Nat) j, fC j r (n + 40) s 1 = j (1 + c)) → (∀ (n : Nat) j, fC j r (n + 40) s 2 = j (2 + c)) →
   (∀ (a : Int) b d e f (n : Nat) j, fF (cM.mk a b s d e f) j (n + 40) 0 1 = j (0 + c)) → (∀ (a : Int) b d e f (n : Nat) j, fF (cM.mk a b s d e f) j (n + 40) 1 1 = j (1 + c)) → (∀ (a : Int) b d e f (n : Nat) j, fF (cM.mk a b s d e f) j (n + 40) 2 1 = j (2 + c)) →
   ∀ (v : Int), (v = 0 ∨ v = 1 ∨ v = 2) → ∀ (n : Nat), (∀ j, fC j r (n + 40) s v = j (v + c)) ∧ (r.States = s → ∀ j, fF r j (n + 40) v 1 = j (v + c)) := by
  intro s c a0 a1 a2 b0 b1 b2 v hv n
  refine ⟨?_, fun hs j => ?_⟩
  ·rcases hv with rfl | rfl | rfl
   ·exact a0 n
   ·exact a1 n
   ·exact a2 n
  ·obtain ⟨a, b, st, d, e, f⟩ := r
   obtain rfl : st = s := hs
   rcases hv with rfl | rfl | rfl
   ·exact b0 _ _ _ _ _ n j
   ·exact b1 _ _ _ _ _ n j
   ·exact b2 _ _ _ _ _ n j
 obtain ⟨k, rfl⟩ : ∃ k : Nat, s = (k : Int) := ⟨s.toNat, by omega⟩
 have hk : k ≤ 31 := by omega
 rcases k with _ | _ | _ | _ | _ | _ | _ | _ | _ | _ | _ | _ | _ | _ | _ | _ | _ | _ | _ | _ | _ | _ | _ | _ | _ | _ | _ | _ | _ | _ | _ | _ | k
 ·exact ⟨0, by decide, key _ _ (fun n j => by kernel_rfl) (fun n j => by kernel_rfl) (fun n j => by kernel_rfl) (fun _ _ _ _ _ n j => by kernel_rfl) (fun _ _ _ _ _ n j => by kernel_rfl) (fun _ _ _ _ _ n j => by kernel_rfl)⟩
 ·exact ⟨1, by decide, key _ _ (fun n j => by kernel_rfl) (fun n j => by kernel_rfl) (fun n j => by kernel_rfl) (fun _ _ _ _ _ n j => by kernel_rfl) (fun _ _ _ _ _ n j => by kernel_rfl) (fun _ _ _ _ _ n j => by kernel_rfl)⟩
 ·exact ⟨1, by decide, key _ _ (fun n j => by kernel_rfl) (fun n j => by kernel_rfl) (fun n j => by kernel_rfl) (fun _ _ _ _ _ n j => by kernel_rfl) (fun _ _ _ _ _ n j => by kernel_rfl) (fun _ _ _ _ _ n j => by kernel_rfl)⟩
 ·exact ⟨2, by decide, key _ _ (fun n j => by kernel_rfl) (fun n j => by kernel_rfl) (fun n j => by kernel_rfl) (fun _ _ _ _ _ n j => by kernel_rfl) (fun _ _ _ _ _ n j => by kernel_rfl) (fun _ _ _ _ _ n j => by kernel_rfl)⟩
 ·exact ⟨1, by decide, key _ _ (fun n j => by kernel_rfl) (fun n j => by kernel_rfl) (fun n j => by kernel_rfl) (fun _ _ _ _ _ n j => by kernel_rfl) (fun _ _ _ _ _ n j => by kernel_rfl) (fun _ _ _ _ _ n j => by kernel_rfl)⟩
 ·exact ⟨2, by decide, key _ _ (fun n j => by kernel_rfl) (fun n j => by kernel_rfl) (fun n j => by kernel_rfl) (fun _ _ _ _ _ n j => by kernel_rfl) (fun _ _ _ _ _ n j => by kernel_rfl) (fun _ _ _ _ _ n j => by kernel_rfl)⟩
 ·exact ⟨2, by decide, key _ _ (fun n j => by kernel_rfl) (fun n j => by kernel_rfl) (fun n j => by kernel_rfl) (fun _ _ _ _ _ n j => by kernel_rfl) (fun _ _ _ _ _ n j => by kernel_rfl) (fun _ _ _ _ _ n j => by kernel_rfl)⟩
 ·exact ⟨3, by decide, key _ _ (fun n j => by kernel_rfl) (fun n j => by kernel_rfl) (fun n j => by kernel_rfl) (fun _ _ _ _ _ n j => by kernel_rfl) (fun _ _ _ _ _ n j => by kernel_rfl) (fun _ _ _ _ _ n j => by kernel_rfl)⟩
 ·exact ⟨1, by decide, key _ _ (fun n j => by kernel_rfl) (fun n j => by kernel_rfl) (fun n j => by kernel_rfl) (fun _ _ _ _ _ n j => by kernel_rfl) (fun _ _ _ _ _ n j => by kernel_rfl) (fun _ _ _ _ _ n j => by kernel_rfl)⟩
 ·exact ⟨2, by decide, key _ _ (fun n j => by kernel_rfl) (fun n j => by kernel_rfl) (fun n j => by kernel_rfl) (fun _ _ _ _ _ n j => by kernel_rfl) (fun _ _ _ _ _ n j => by kernel_rfl) (fun _ _ _ _ _ n j => by kernel_rfl)⟩
 ·exact ⟨2, by decide, key _ _ (fun n j => by kernel_rfl) (fun n j => by kernel_rfl) (fun n j => by kernel_rfl) (fun _ _ _ _ _ n j => by kernel_rfl) (fun _ _ _ _ _ n j => by kernel_rfl) (fun _ _ _ _ _ n j => by kernel_rfl)⟩
 ·exact ⟨3, by decide, key _ _ (fun n j => by kernel_rfl) (fun n j => by kernel_rfl) (fun n j => by kernel_rfl) (fun _ _ _ _ _ n j => by kernel_rfl) (fun _ _ _ _ _ n j => by kernel_rfl) (fun _ _ _ _ _ n j => by kernel_rfl)⟩
 ·exact ⟨2, by decide, key _ _ (fun n j => by kernel_rfl) (fun n j => by kernel_rfl) (fun n j => by kernel_rfl) (fun _ _ _ _ _ n j => by kernel_rfl) (fun _ _ _ _ _ n j => by kernel_rfl) (fun _ _ _ _ _ n j => by kernel_rfl)⟩
 ·exact ⟨3, by decide, key _ _ (fun n j => by kernel_rfl) (fun n j => by kernel_rfl) (fun n j => by kernel_rfl) (fun _ _ _ _ _ n j => by kernel_rfl) (fun _ _ _ _ _ n j => by kernel_rfl) (fun _ _ _ _ _ n j => by kernel_rfl)⟩
 ·exact ⟨3, by decide, key _ _ (fun n j => by kernel_rfl) (fun n j => by kernel_rfl) (fun n j => by kernel_rfl) (fun _ _ _ _ _ n j => by kernel_rfl) (fun _ _ _ _ _ n j => by kernel_rfl) (fun _ _ _ _ _ n j => by kernel_rfl)⟩
 ·exact ⟨4, by decide, key _ _ (fun n j => by kernel_rfl) (fun n j => by kernel_rfl) (fun n j => by kernel_rfl) (fun _ _ _ _ _ n j => by kernel_rfl) (fun _ _ _ _ _ n j => by kernel_rfl) (fun _ _ _ _ _ n j => by kernel_rfl)⟩
 ·exact ⟨1, by decide, key _ _ (fun n j => by kernel_rfl) (fun n j => by kernel_rfl) (fun n j => by kernel_rfl) (fun _ _ _ _ _ n j => by kernel_rfl) (fun _ _ _ _ _ n j => by kernel_rfl) (fun _ _ _ _ _ n j => by kernel_rfl)⟩
 ·exact ⟨2, by decide, key _ _ (fun n j => by kernel_rfl) (fun n j => by kernel_rfl) (fun n j => by kernel_rfl) (fun _ _ _ _ _ n j => by kernel_rfl) (fun _ _ _ _ _ n j => by kernel_rfl) (fun _ _ _ _ _ n j => by kernel_rfl)⟩
 ·exact ⟨2, by decide, key _ _ (fun n j => by kernel_rfl) (fun n j => by kernel_rfl) (fun n j => by kernel_rfl) (fun _ _ _ _ _ n j => by kernel_rfl) (fun _ _ _ _ _ n j => by kernel_rfl) (fun _ _ _ _ _ n j => by kernel_rfl)⟩
 ·exact ⟨3, by decide, key _ _ (fun n j => by kernel_rfl) (fun n j => by kernel_rfl) (fun n j => by kernel_rfl) (fun _ _ _ _ _ n j => by kernel_rfl) (fun _ _ _ _ _ n j => by kernel_rfl) (fun _ _ _ _ _ n j => by kernel_rfl)⟩
 ·exact ⟨2, by decide, key _ _ (fun n j => by kernel_rfl) (fun n j => by kernel_rfl) (fun n j => by kernel_rfl) (fun _ _ _ _ _ n j => by kernel_rfl) (fun _ _ _ _ _ n j => by kernel_rfl) (fun _ _ _ _ _ n j => by kernel_rfl)⟩
 ·exact ⟨3, by decide, key _ _ (fun n j => by kernel_rfl) (fun n j => by kernel_rfl) (fun n j => by kernel_rfl) (fun _ _ _ _ _ n j => by kernel_rfl) (fun _ _ _ _ _ n j => by kernel_rfl) (fun _ _ _ _ _ n j => by kernel_rfl)⟩
 ·exact ⟨3, by decide, key _ _ (fun n j => by kernel_rfl) (fun n j => by kernel_rfl) (fun n j => by kernel_rfl) (fun _ _ _ _ _ n j => by kernel_rfl) (fun _ _ _ _ _ n j => by kernel_rfl) (fun _ _ _ _ _ n j => by kernel_rfl)⟩
 ·exact ⟨4, by decide, key _ _ (fun n j => by kernel_rfl) (fun n j => by kernel_rfl) (fun n j => by kernel_rfl) (fun _ _ _ _ _ n j => by kernel_rfl) (fun _ _ _ _ _ n j => by kernel_rfl) (fun _ _ _ _ _ n j => by kernel_rfl)⟩
 ·exact ⟨2, by decide, key _ _ (fun n j => by kernel_rfl) (fun n j => by kernel_rfl) (fun n j => by kernel_rfl) (fun _ _ _ _ _ n j => by kernel_rfl) (fun _ _ _ _ _ n j => by kernel_rfl) (fun _ _ _ _ _ n j => by kernel_rfl)⟩
 ·exact ⟨3, by decide, key _ _ (fun n j => by kernel_rfl) (fun n j => by kernel_rfl) (fun n j => by kernel_rfl) (fun _ _ _ _ _ n j => by kernel_rfl) (fun _ _ _ _ _ n j => by kernel_rfl) (fun _ _ _ _ _ n j => by kernel_rfl)⟩
 ·exact ⟨3, by decide, key _ _ (fun n j => by kernel_rfl) (fun n j => by kernel_rfl) (fun n j => by kernel_rfl) (fun _ _ _ _ _ n j => by kernel_rfl) (fun _ _ _ _ _ n j => by kernel_rfl) (fun _ _ _ _ _ n j => by kernel_rfl)⟩
 ·exact ⟨4, by decide, key _ _ (fun n j => by kernel_rfl) (fun n j => by kernel_rfl) (fun n j => by kernel_rfl) (fun _ _ _ _ _ n j => by kernel_rfl) (fun _ _ _ _ _ n j => by kernel_rfl) (fun _ _ _ _ _ n j => by kernel_rfl)⟩
 ·exact ⟨3, by decide, key _ _ (fun n j => by kernel_rfl) (fun n j => by kernel_rfl) (fun n j => by kernel_rfl) (fun _ _ _ _ _ n j => by kernel_rfl) (fun _ _ _ _ _ n j => by kernel_rfl) (fun _ _ _ _ _ n j => by kernel_rfl)⟩
 ·exact ⟨4, by decide, key _ _ (fun n j => by kernel_rfl) (fun n j => by kernel_rfl) (fun n j => by kernel_rfl) (fun _ _ _ _ _ n j => by kernel_rfl) (fun _ _ _ _ _ n j => by kernel_rfl) (fun _ _ _ _ _ n j => by kernel_rfl)⟩
 ·exact ⟨4, by decide, key _ _ (fun n j => by kernel_rfl) (fun n j => by kernel_rfl) (fun n j => by kernel_rfl) (fun _ _ _ _ _ n j => by kernel_rfl) (fun _ _ _ _ _ n j => by kernel_rfl) (fun _ _ _ _ _ n j => by kernel_rfl)⟩
 ·exact ⟨5, by decide, key _ _ (fun n j => by kernel_rfl) (fun n j => by kernel_rfl) (fun n j => by kernel_rfl) (fun _ _ _ _ _ n j => by kernel_rfl) (fun _ _ _ _ _ n j => by kernel_rfl) (fun _ _ _ _ _ n j => by kernel_rfl)⟩
 ·omega
theorem wc_eq (r : cM) : ∃ c, (c = 0 ∨ c = 1 ∨ c = 2) ∧ ∀ (n : Nat), (∀ j, jN r j (n + 20) 0 0 = j c) ∧ (∀ (j : Int → Option (Int × Int)), (aS (fun (v2 : Int) => (aS (fun (v4 : Int) => j v4) (fun (j3 : Int → Option (Int × Int)) => (if (!(bP r.UnderClass nB)) = true then j3 (w6 (v2 + 1)) else j3 v2)))) (fun (j1 : Int → Option (Int × Int)) => (if (!(bP r.Class nB)) = true then j1 (w6 (0 + 1)) else j1 0))) = j c) := by
 have hL : ∀ (n : Nat) j, jN r j (n + 20) 0 0 = (if (!(bP r.Class nB)) = true then (if (!(bP r.UnderClass nB)) = true then j 2 else j 1) else (if (!(bP r.UnderClass nB)) = true then j 1 else j 0)) := fun n j => by kernel_rfl
 cases h1 : bP r.Class nB <;> cases h2 : bP r.UnderClass nB
 ·exact ⟨2, by decide, fun n => ⟨fun j => by rw [hL, h1, h2]; rfl, fun j => by unfold aS; rfl⟩⟩
 ·exact ⟨1, by decide, fun n => ⟨fun j => by rw [hL, h1, h2]; rfl, fun j => by unfold aS; rfl⟩⟩
 ·exact ⟨1, by decide, fun n => ⟨fun j => by rw [hL, h1, h2]; rfl, fun j => by unfold aS; rfl⟩⟩
 ·exact ⟨0, by decide, fun n => ⟨fun j => by rw [hL, h1, h2]; rfl, fun j => by unfold aS; rfl⟩⟩
theorem wk_eq (r : cM) : ∃ c, (c = 0 ∨ c = 1 ∨ c = 2) ∧ ∀ (n : Nat), (∀ j v, jO r j v (n + 20) 0 0 = j c) ∧ (∀ (j : Int → Option (Int × Int)), (aS (fun (v16 : Int) => (aS (fun (v18 : Int) => j v18) (fun (j17 : Int → Option (Int × Int)) => (if (r.UnderKind != 0) = true then j17 (w6 (v16 + 1)) else j17 v16)))) (fun (j15 : Int → Option (Int × Int)) => (if (r.Kind != 0) = true then j15 (w6 (0 + 1)) else j15 0))) = j c) := by
 have hL : ∀ (n : Nat) j v, jO r j v (n + 20) 0 0 = (if (r.Kind != 0) = true then (if (r.UnderKind != 0) = true then j 2 else j 1) else (if (r.UnderKind != 0) = true then j 1 else j 0)) := fun n j v => by kernel_rfl
 cases h1 : r.Kind != 0 <;> cases h2 : r.UnderKind != 0
 ·exact ⟨0, by decide, fun n => ⟨fun j v => by rw [hL, h1, h2]; rfl, fun j => by unfold aS; rfl⟩⟩
 ·exact ⟨1, by decide, fun n => ⟨fun j v => by rw [hL, h1, h2]; rfl, fun j => by unfold aS; rfl⟩⟩
 ·exact ⟨1, by decide, fun n => ⟨fun j v => by rw [hL, h1, h2]; rfl, fun j => by unfold aS; rfl⟩⟩
 ·exact ⟨2, by decide, fun n => ⟨fun j v => by rw [hL, h1, h2]; rfl, fun j => by unfold aS; rfl⟩⟩
theorem Xs (r : cM) (h : 0 ≤ r.States ∧ r.States ≤ 31) : ∃ a b, (0 ≤ a ∧ 0 ≤ b) ∧ ∀ n, 60 ≤ n → lQ n r = some ⟨a, b⟩ ∧ lL n r = some (a, b) := by
 obtain ⟨c1, hc1, h1⟩ := wc_eq r
 obtain ⟨c2, hc2, h2⟩ := pop_all r r.States h
 obtain ⟨c3, hc3, h3⟩ := wk_eq r
 refine ⟨c1 + c2, c3, by omega, fun n hn => ?_⟩
 obtain ⟨m, rfl⟩ : ∃ m, n = m + 20 := ⟨n - 20, by omega⟩
 obtain ⟨k, rfl⟩ : ∃ k, m = k + 20 := ⟨m - 20, by omega⟩
 constructor
 ·unfold lQ aS
  refine ((h1 (k + 20)).1 _).trans ?_
  refine ((h2 c1 hc1 k).1 _).trans ?_
  exact (h3 (k + 20)).1 _ _
 ·unfold lL
  refine ((h1 0).2 _).trans ?_
  refine ((h2 c1 hc1 k).2 rfl _).trans ?_
  exact (h3 0).2 _
def Ou (r : cM) : Int × Int := (lL 60 r).getD (0, 0)
theorem Tm (r : cM) (h : 0 ≤ r.States ∧ r.States ≤ 31) (n : Nat) (hn : 60 ≤ n) : lQ n r = some ⟨(Ou r).1, (Ou r).2⟩ ∧ lL n r = some (Ou r) ∧ 0 ≤ (Ou r).1 ∧ 0 ≤ (Ou r).2 := by
 obtain ⟨a, b, hab, hw⟩ := Xs r h
 unfold Ou
 rw [(hw 60 (Nat.le_refl _)).2]
 exact ⟨(hw n hn).1, (hw n hn).2, hab⟩
def Kg (a b : Int × Int) : Bool := (decide (a.1 < b.1)) || ((a.1 == b.1) && (decide (a.2 < b.2)))
theorem rM {a b : Int × Int} : Kg a b = true ↔ a.1 < b.1 ∨ (a.1 = b.1 ∧ a.2 < b.2) := by
 unfold Kg; simp
theorem Mo {a b c : Int × Int} (h1 : Kg a b = false) (h2 : Kg b c = false) : Kg a c = false := by
 rw [← Bool.not_eq_true, rM] at *
 omega
theorem Yz (n : Nat) (a b : Int) : iS n a b = some (if a < b then -1 else if b < a then 1 else 0) := by
 unfold iS nW
 simp only [bne_self_eq_false, oB, fT, if_false, decide_eq_true_eq, gt_iff_lt]
 split
 ·rfl
 ·split <;> rfl
theorem comp_eq (n : Nat) (hn : 10 ≤ n) (a b c d : Int) : ∃ y, fV n [a, b] [c, d] = some y ∧ decide (y < 0) = Kg (a, b) (c, d) := by
 obtain ⟨n, rfl⟩ : ∃ m, n = m + 10 := ⟨n - 10, by omega⟩
 have e : fV (n + 10) [a, b] [c, d] = (iS (n + 9) a c).bind fun y8 => if (y8 != 0) = true then some y8 else (iS (n + 8) b d).bind fun y8 => if (y8 != 0) = true then some y8 else some 0 := by kernel_rfl
 rw [e, Yz, Yz]
 simp only [oB]
 by_cases h1 : a < c
 ·rw [if_pos h1]
  exact ⟨-1, rfl, by rw [rM (a := (a, b)) (b := (c, d)) |>.2 (.inl h1)]; rfl⟩
 ·rw [if_neg h1]
  by_cases h2 : c < a
  ·rw [if_pos h2]
   refine ⟨1, rfl, ?_⟩
   rw [Bool.eq_iff_iff, rM]; simp; omega
  ·rw [if_neg h2]
   simp only [bne_self_eq_false, fT, if_false]
   have hac : a = c := by omega
   subst hac
   by_cases h3 : b < d
   ·rw [if_pos h3]
    exact ⟨-1, rfl, by rw [rM (a := (a, b)) (b := (a, d)) |>.2 (.inr ⟨rfl, h3⟩)]; rfl⟩
   ·rw [if_neg h3]
    by_cases h4 : d < b
    ·rw [if_pos h4]
     refine ⟨1, rfl, ?_⟩
     rw [Bool.eq_iff_iff, rM]; simp; omega
    ·rw [if_neg h4]
     refine ⟨0, rfl, ?_⟩
     rw [Bool.eq_iff_iff, rM]; simp; omega
end Go.Proofs.YtojkihhnioeggaaGreatDoor.S
