/- The plain laws: what each statement says of the model. -/
import Derived.Test.YtendgmnbnnkpnaaP1
import Derived.WalkKit
import Derived.WalkSpells
import Derived.WalkLawsBesides
import Derived.Deep.QuietTactic
import Derived.BigQuiet
import Derived.BigRegion
import Derived.Lib.Hide
import Derived.Deep.RegionWith
set_option linter.unusedSimpArgs false
set_option linter.unusedVariables false
namespace Go.Proofs.Ytendgmnbnnkpnaa.G
/-! a long press -/
/-- the plain law: what the three events and the victory make of a long press -/
theorem long_plain (X Y t1 t2 : Int) (hX : -32 ≤ X ∧ X ≤ 32) (hY : -32 ≤ Y ∧ Y ≤ 32) (h1 : 0 ≤ t1 ∧ t1 < 600) (h2 : t1 ≤ t2 ∧ t2 < 1200) :
    let q1 := feed (newR 3 1) ⟨1, 1, 0, 0, 0, 0⟩
    let q2 := feed q1.1 ⟨2, 1, X, Y, t1, 0⟩
    let q3 := feed q2.1 ⟨5, 1, 0, 0, t2, 0⟩
    if 500 ≤ t1 then q2.2.1 = 1 ∧ q3.2.1 = 0 ∧ (win q3.1).2 = [⟨3, 1, 1, 0, 0, 0, 0, 1000, 0, 0⟩]
    else if 8 < dist ⟨X, Y, t1⟩ ⟨0, 0, 0⟩ then q2.2.1 = 2 ∧ q3.2.1 = 0 ∧ (win q3.1).2 = []
    else if 500 ≤ t2 then q2.2.1 = 0 ∧ q3.2.1 = 1 ∧ (win q3.1).2 = [⟨3, 1, 1, 0, 0, 0, 0, 1000, 0, 0⟩]
    else q2.2.1 = 0 ∧ q3.2.1 = 0 ∧ (win q3.1).2 = [] := by
  have e1 : feed (newR 3 1) ⟨1, 1, 0, 0, 0, 0⟩ = (⟨3, 1, 1, 0, [⟨1, ⟨0, 0, 0⟩, [⟨0, 0, 0⟩]⟩], .zero⟩, 0, []) := rfl
  simp only [e1]
  have v2 : valid ⟨2, 1, X, Y, t1, 0⟩ = true := by simp [valid, placed, btw]; omega
  have v3 : valid ⟨5, 1, 0, 0, t2, 0⟩ = true := by simp [valid, btw]; omega
  have d1 : deaf ⟨3, 1, 1, 0, [⟨1, ⟨0, 0, 0⟩, [⟨0, 0, 0⟩]⟩], .zero⟩ = false := rfl
  by_cases a1 : 500 ≤ t1
  · have e2 : feed ⟨3, 1, 1, 0, [⟨1, ⟨0, 0, 0⟩, [⟨0, 0, 0⟩]⟩], .zero⟩ ⟨2, 1, X, Y, t1, 0⟩ = (⟨3, 1, 2, 0, [⟨1, ⟨0, 0, 0⟩, [⟨0, 0, 0⟩]⟩], ⟨0, 0, t1⟩⟩, 1, []) := by
      rw [feed_late _ _ (by rw [v2, d1]; rfl)]
      simp [lateM, succeed, show ¬ t1 < 500 by omega]
    have e3 : feed ⟨3, 1, 2, 0, [⟨1, ⟨0, 0, 0⟩, [⟨0, 0, 0⟩]⟩], ⟨0, 0, t1⟩⟩ ⟨5, 1, 0, 0, t2, 0⟩ = (⟨3, 1, 2, 0, [⟨1, ⟨0, 0, 0⟩, [⟨0, 0, 0⟩]⟩], ⟨0, 0, t1⟩⟩, 0, []) := by
      unfold feed; rw [v3]; rfl
    rw [if_pos a1]
    simp only [e2, e3]
    exact ⟨trivial, trivial, rfl⟩
  · rw [if_neg a1]
    by_cases a2 : 8 < dist ⟨X, Y, t1⟩ ⟨0, 0, 0⟩
    · have e2 : feed ⟨3, 1, 1, 0, [⟨1, ⟨0, 0, 0⟩, [⟨0, 0, 0⟩]⟩], .zero⟩ ⟨2, 1, X, Y, t1, 0⟩ = (⟨3, 1, 4, 0, [], .zero⟩, 2, []) := by
        rw [feed_late _ _ (by rw [v2, d1]; rfl)]
        simp [lateM, show t1 < 500 by omega, process, find, List.findIdx?_cons, follow, still, smp, a2, fail, over]
      have e3 : feed ⟨3, 1, 4, 0, [], .zero⟩ ⟨5, 1, 0, 0, t2, 0⟩ = (⟨3, 1, 4, 0, [], .zero⟩, 0, []) := by
        unfold feed; rw [v3]; rfl
      rw [if_pos a2]
      simp only [e2, e3]
      exact ⟨trivial, trivial, rfl⟩
    · have e2 : feed ⟨3, 1, 1, 0, [⟨1, ⟨0, 0, 0⟩, [⟨0, 0, 0⟩]⟩], .zero⟩ ⟨2, 1, X, Y, t1, 0⟩ = (⟨3, 1, 1, 0, [⟨1, ⟨0, 0, 0⟩, [⟨0, 0, 0⟩, ⟨X, Y, t1⟩]⟩], .zero⟩, 0, []) := by
        rw [feed_late _ _ (by rw [v2, d1]; rfl)]
        simp [lateM, show t1 < 500 by omega, process, find, List.findIdx?_cons, follow, still, smp, a2, more]
      have d2 : deaf ⟨3, 1, 1, 0, [⟨1, ⟨0, 0, 0⟩, [⟨0, 0, 0⟩, ⟨X, Y, t1⟩]⟩], .zero⟩ = false := rfl
      rw [if_neg a2]
      by_cases a3 : 500 ≤ t2
      · have e3 : feed ⟨3, 1, 1, 0, [⟨1, ⟨0, 0, 0⟩, [⟨0, 0, 0⟩, ⟨X, Y, t1⟩]⟩], .zero⟩ ⟨5, 1, 0, 0, t2, 0⟩ = (⟨3, 1, 2, 0, [⟨1, ⟨0, 0, 0⟩, [⟨0, 0, 0⟩, ⟨X, Y, t1⟩]⟩], ⟨0, 0, t2⟩⟩, 1, []) := by
          rw [feed_late _ _ (by rw [v3, d2]; rfl)]
          simp [lateM, succeed, show ¬ t2 < 500 by omega]
        rw [if_pos a3]
        simp only [e2, e3]
        exact ⟨trivial, trivial, rfl⟩
      · have e3 : feed ⟨3, 1, 1, 0, [⟨1, ⟨0, 0, 0⟩, [⟨0, 0, 0⟩, ⟨X, Y, t1⟩]⟩], .zero⟩ ⟨5, 1, 0, 0, t2, 0⟩ = (⟨3, 1, 1, 0, [⟨1, ⟨0, 0, 0⟩, [⟨0, 0, 0⟩, ⟨X, Y, t1⟩]⟩], .zero⟩, 0, []) := by
          rw [feed_late _ _ (by rw [v3, d2]; rfl)]
          simp [lateM, show t2 < 500 by omega, process]
        rw [if_neg a3]
        simp only [e2, e3]
        exact ⟨trivial, trivial, rfl⟩
/-! the samples of a pan -/
def smpl (k : Nat) : Smp := ⟨((k : Int)).tmod 8, 0, 10 * (k : Int)⟩
def panS (i : Nat) : List Smp := ((List.range (i + 1)).map smpl).drop (i + 1 - 8)
def panR (i : Nat) : Rec := ⟨6, 1, 1, 0, [⟨1, ⟨0, 0, 0⟩, panS i⟩], .zero⟩
theorem panS_len (i : Nat) : (panS i).length = i + 1 - (i + 1 - 8) := by simp [panS]
theorem panS_more (i : Nat) : more (panS i) (smpl (i + 1)) = panS (i + 1) := by
  have h1 : panS i ++ [smpl (i + 1)] = ((List.range (i + 2)).map smpl).drop (i + 1 - 8) := by
    rw [List.range_succ (n := i + 1), List.map_append, List.drop_append_of_le_length (by simp; omega)]
    rfl
  unfold more
  rw [List.length_append, panS_len, h1, List.drop_drop]
  unfold panS
  congr 1
  simp only [List.length_cons, List.length_nil]
  omega
theorem panS_last (i : Nat) (d : Smp) : (panS i).getLastD d = smpl i := by
  have : panS i = ((List.range i).map smpl).drop (i + 1 - 8) ++ [smpl i] := by
    unfold panS
    rw [List.range_succ, List.map_append, List.drop_append_of_le_length (by simp <;> omega)]
    rfl
  rw [this]; simp
theorem smpl_bd (k : Nat) : 0 ≤ (smpl k).X ∧ (smpl k).X ≤ 7 := by
  have h1 := Int.tmod_nonneg 8 (show (0 : Int) ≤ k by omega)
  have h2 := Int.tmod_lt_of_pos (k : Int) (show (0 : Int) < 8 by omega)
  exact ⟨h1, by show ((k : Int)).tmod 8 ≤ 7; omega⟩
theorem pan_step (i : Nat) (hi : i < 30) : feed (panR i) ⟨2, 1, (smpl (i + 1)).X, 0, (smpl (i + 1)).T, 0⟩ = (panR (i + 1), 0, []) := by
  have hb := smpl_bd (i + 1)
  have ht : (smpl (i + 1)).T = 10 * ((i + 1 : Nat) : Int) := rfl
  have v : valid ⟨2, 1, (smpl (i + 1)).X, 0, (smpl (i + 1)).T, 0⟩ = true := by
    simp [valid, placed, btw]; omega
  rw [feed_late _ _ (by rw [v]; rfl)]
  have hl : lateM (panR i) ⟨2, 1, (smpl (i + 1)).X, 0, (smpl (i + 1)).T, 0⟩ = none := rfl
  have hf : follow (panR i).Ts 0 (smpl (i + 1)) = (panR (i + 1)).Ts := by
    simp only [follow, panR, List.getElem?_cons_zero, List.set_cons_zero, panS_more]
  have hs : smp ⟨2, 1, (smpl (i + 1)).X, 0, (smpl (i + 1)).T, 0⟩ = smpl (i + 1) := rfl
  have hc : certain (panR (i + 1)) = (false, false) := by
    simp only [certain, panR, latest, panS_last, size]
    have hy : (smpl (i + 1)).Y = 0 := rfl
    rw [hy]
    simp [mx]
    split <;> omega
  have hp : process (panR i) ⟨2, 1, (smpl (i + 1)).X, 0, (smpl (i + 1)).T, 0⟩ = slide (panR (i + 1)) ⟨2, 1, (smpl (i + 1)).X, 0, (smpl (i + 1)).T, 0⟩ := by
    have hfind : find (panR i).Ts 1 = some 0 := rfl
    simp only [process, hfind, hs, hf]
    simp [panR]
  rw [hl, Option.getD_none, hp]
  simp only [slide, hc]
  simp [panR]
theorem panS_get (m j : Nat) (hj : j < (panS m).length) : (panS m)[j]? = some (smpl (m + 1 - (panS m).length + j)) := by
  rw [panS_len] at hj ⊢
  unfold panS
  rw [List.getElem?_drop, List.getElem?_map, List.getElem?_range (by omega)]
  simp only [Option.map_some]
  congr 2
  omega
/-! the axes -/
def axR (k x y : Int) : Rec := ⟨k, 1, 1, 0, [⟨1, ⟨0, 0, 0⟩, [⟨0, 0, 0⟩, ⟨x, y, 10⟩]⟩], .zero⟩
def axW (k x y : Int) : Bool := if k = 4 then decide (8 < size x ∧ size y ≤ size x) else if k = 5 then decide (8 < size y ∧ size x < size y) else decide (8 < mx (size x) (size y))
theorem axes_feed (k x y : Int) (hk : k = 4 ∨ k = 5 ∨ k = 6) (hx : -128 ≤ x ∧ x ≤ 127) (hy : -128 ≤ y ∧ y ≤ 127) :
    feed (newR k 1) ⟨1, 1, 0, 0, 0, 0⟩ = (⟨k, 1, 1, 0, [⟨1, ⟨0, 0, 0⟩, [⟨0, 0, 0⟩]⟩], .zero⟩, 0, []) ∧
    feed ⟨k, 1, 1, 0, [⟨1, ⟨0, 0, 0⟩, [⟨0, 0, 0⟩]⟩], .zero⟩ ⟨2, 1, x, y, 10, 0⟩ = slide (axR k x y) ⟨2, 1, x, y, 10, 0⟩ := by
  have v2 : valid ⟨2, 1, x, y, 10, 0⟩ = true := by simp [valid, placed, btw]; omega
  refine ⟨by rcases hk with rfl | rfl | rfl <;> rfl, ?_⟩
  have d : deaf ⟨k, 1, 1, 0, [⟨1, ⟨0, 0, 0⟩, [⟨0, 0, 0⟩]⟩], .zero⟩ = false := rfl
  rw [feed_late _ _ (by rw [v2, d]; rfl)]
  have hl : lateM ⟨k, 1, 1, 0, [⟨1, ⟨0, 0, 0⟩, [⟨0, 0, 0⟩]⟩], .zero⟩ ⟨2, 1, x, y, 10, 0⟩ = none := by rcases hk with rfl | rfl | rfl <;> rfl
  have hfind : find [⟨1, ⟨0, 0, 0⟩, [⟨0, 0, 0⟩]⟩] 1 = some 0 := rfl
  rw [hl, Option.getD_none]
  simp only [process, hfind]
  have hf : follow [⟨1, ⟨0, 0, 0⟩, [⟨0, 0, 0⟩]⟩] 0 (smp ⟨2, 1, x, y, 10, 0⟩) = (axR k x y).Ts := rfl
  rw [hf]
  rcases hk with rfl | rfl | rfl <;> rfl
theorem axes_slide (k x y : Int) (hk : k = 4 ∨ k = 5 ∨ k = 6) :
    (axW k x y = true → slide (axR k x y) ⟨2, 1, x, y, 10, 0⟩ = ({ axR k x y with State := 2 }, 1, [])) ∧
    (axW k x y = false → (8 < size x ∨ 8 < size y) → slide (axR k x y) ⟨2, 1, x, y, 10, 0⟩ = (over (axR k x y), 2, [])) ∧
    (axW k x y = false → ¬ (8 < size x ∨ 8 < size y) → slide (axR k x y) ⟨2, 1, x, y, 10, 0⟩ = (axR k x y, 0, [])) := by
  have hl : latest ⟨1, ⟨0, 0, 0⟩, [⟨0, 0, 0⟩, ⟨x, y, 10⟩]⟩ = ⟨x, y, 10⟩ := rfl
  have hc : certain (axR k x y) = (if k = 4 then (decide (8 < size x ∧ size y ≤ size x), !decide (8 < size x ∧ size y ≤ size x) && decide (8 < size y)) else if k = 5 then (decide (8 < size y ∧ size x < size y), !decide (8 < size y ∧ size x < size y) && decide (8 < size x)) else (decide (8 < mx (size x) (size y)), false)) := by
    simp only [certain, axR, hl]
    rcases hk with rfl | rfl | rfl <;> simp
  have hm : 8 < mx (size x) (size y) ↔ 8 < size x ∨ 8 < size y := lt_mx
  unfold axW
  generalize size x = a at *
  generalize size y = b at *
  have hs : slide (axR k x y) ⟨2, 1, x, y, 10, 0⟩ = (if (certain (axR k x y)).2 then fail (axR k x y) else if (certain (axR k x y)).1 then ({ axR k x y with State := 2 }, 1, []) else (axR k x y, 0, [])) := rfl
  have hfl : fail (axR k x y) = (over (axR k x y), 2, []) := rfl
  rw [hs, hc, hfl]
  rcases hk with rfl | rfl | rfl
  · simp only [if_true]
    by_cases c1 : 8 < a ∧ b ≤ a
    · rw [decide_eq_true c1]
      exact ⟨fun _ => rfl, fun h => (by cases h), fun h => (by cases h)⟩
    · rw [decide_eq_false c1]
      refine ⟨fun h => (by cases h), fun _ h2 => ?_, fun _ h2 => ?_⟩
      · have : 8 < b := by omega
        rw [decide_eq_true this]; rfl
      · have : ¬ 8 < b := by omega
        rw [decide_eq_false this]; rfl
  · simp only [if_true, show ¬ (5 : Int) = 4 by decide, if_false]
    by_cases c1 : 8 < b ∧ a < b
    · rw [decide_eq_true c1]
      exact ⟨fun _ => rfl, fun h => (by cases h), fun h => (by cases h)⟩
    · rw [decide_eq_false c1]
      refine ⟨fun h => (by cases h), fun _ h2 => ?_, fun _ h2 => ?_⟩
      · have : 8 < a := by omega
        rw [decide_eq_true this]; rfl
      · have : ¬ 8 < a := by omega
        rw [decide_eq_false this]; rfl
  · simp only [show ¬ (6 : Int) = 4 by decide, show ¬ (6 : Int) = 5 by decide, if_false]
    by_cases c1 : 8 < mx a b
    · rw [decide_eq_true c1]
      exact ⟨fun _ => rfl, fun h => (by cases h), fun h => (by cases h)⟩
    · rw [decide_eq_false c1]
      exact ⟨fun h => (by cases h), fun _ h2 => absurd (hm.2 h2) c1, fun _ _ => rfl⟩
theorem axes_win (k x y : Int) (hk : k = 4 ∨ k = 5 ∨ k = 6) :
    (win { axR k x y with State := 2 }).2 = [⟨k, 1, 2, 0, 0, 0, 0, 1000, 0, 0⟩, ⟨k, 1, 3, x, y, if k = 5 then 0 else x, if k = 4 then 0 else y, 1000, 0, 0⟩] ∧ (win (over (axR k x y))).2 = [] ∧ (win (axR k x y)).2 = [] := by
  rcases hk with rfl | rfl | rfl
  all_goals
    refine ⟨?_, rfl, rfl⟩
    simp [win, axR, cont, btw, stageG, dragG, latest]
/-! taps -/
def tapR (k : Int) : Rec := ⟨k, 1, 1, 0, [⟨1, ⟨0, 0, 0⟩, [⟨0, 0, 0⟩]⟩], .zero⟩
theorem feed_over (r : Rec) (e : Ev) : feed (over r) e = (over r, 0, []) := by
  unfold feed
  have : (!valid e || deaf (over r)) = true := by simp [deaf, over]
  rw [if_pos this]
theorem win_over (r : Rec) : (win (over r)).2 = [] := rfl
theorem tap_dn (k : Int) (hk : k = 1 ∨ k = 2) : feed (newR k 1) ⟨1, 1, 0, 0, 0, 0⟩ = (tapR k, 0, []) := by rcases hk with rfl | rfl <;> rfl
section
variable (x y t1 : Int) (hx : -20 ≤ x ∧ x ≤ 20) (hy : -20 ≤ y ∧ y ≤ 20) (h1 : 0 ≤ t1 ∧ t1 < 2000)
include hx hy h1
theorem ev_valid (k : Int) (hk : 1 ≤ k ∧ k ≤ 4) : valid ⟨k, 1, x, y, t1, 0⟩ = true := by
  have h5 : ¬ k = 5 := by omega
  simp [valid, h5, placed, btw]; omega
theorem tap_bad (k : Int) (hk : k = 1 ∨ k = 2) (hb : 300 < t1 ∨ 8 < dist ⟨x, y, t1⟩ ⟨0, 0, 0⟩) : feed (tapR k) ⟨3, 1, x, y, t1, 0⟩ = (over (tapR k), 2, []) := by
  have hd : deaf (tapR k) = false := rfl
  rw [feed_late _ _ (by rw [ev_valid x y t1 hx hy h1 3 (by omega), hd]; rfl)]
  by_cases h3 : 300 < t1
  · rcases hk with rfl | rfl <;> simp [lateM, tapR, h3, fail, over]
  · have hb2 : 8 < dist ⟨x, y, t1⟩ ⟨0, 0, 0⟩ := by omega
    rcases hk with rfl | rfl <;> simp [lateM, tapR, h3, process, find, List.findIdx?_cons, follow, still, smp, hb2, fail, over]
theorem tap_one (h3 : ¬ 300 < t1) (hb : ¬ 8 < dist ⟨x, y, t1⟩ ⟨0, 0, 0⟩) : feed (tapR 1) ⟨3, 1, x, y, t1, 0⟩ = (⟨1, 1, 2, 0, [], ⟨x, y, t1⟩⟩, 0, []) := by
  have hd : deaf (tapR 1) = false := rfl
  rw [feed_late _ _ (by rw [ev_valid x y t1 hx hy h1 3 (by omega), hd]; rfl)]
  simp [lateM, tapR, h3, process, find, List.findIdx?_cons, follow, still, smp, hb, succeed]
theorem tap_two (h3 : ¬ 300 < t1) (hb : ¬ 8 < dist ⟨x, y, t1⟩ ⟨0, 0, 0⟩) : feed (tapR 2) ⟨3, 1, x, y, t1, 0⟩ = (⟨2, 1, 1, 1, [], ⟨x, y, t1⟩⟩, 3, []) := by
  have hd : deaf (tapR 2) = false := rfl
  rw [feed_late _ _ (by rw [ev_valid x y t1 hx hy h1 3 (by omega), hd]; rfl)]
  simp [lateM, tapR, h3, process, find, List.findIdx?_cons, follow, still, smp, hb]
theorem tap_dn_bad (L : Smp) (hb : 300 < t1 - L.T ∨ 8 < dist ⟨x, y, t1⟩ L) : feed ⟨2, 1, 1, 1, [], L⟩ ⟨1, 1, x, y, t1, 0⟩ = (over ⟨2, 1, 1, 1, [], L⟩, 2, []) := by
  have hd : deaf ⟨2, 1, 1, 1, [], L⟩ = false := rfl
  rw [feed_late _ _ (by rw [ev_valid x y t1 hx hy h1 1 (by omega), hd]; rfl)]
  by_cases h3 : 300 < t1 - L.T
  · simp [lateM, h3, fail, over]
  · have hb2 : 8 < dist ⟨x, y, t1⟩ L := by omega
    simp [lateM, h3, process, find, down, smp, hb2, fail, over]
theorem tap_dn_good (L : Smp) (h3 : ¬ 300 < t1 - L.T) (hb : ¬ 8 < dist ⟨x, y, t1⟩ L) : feed ⟨2, 1, 1, 1, [], L⟩ ⟨1, 1, x, y, t1, 0⟩ = (⟨2, 1, 1, 1, [⟨1, ⟨x, y, t1⟩, [⟨x, y, t1⟩]⟩], L⟩, 0, []) := by
  have hd : deaf ⟨2, 1, 1, 1, [], L⟩ = false := rfl
  rw [feed_late _ _ (by rw [ev_valid x y t1 hx hy h1 1 (by omega), hd]; rfl)]
  simp [lateM, h3, process, find, down, smp, hb, room]
theorem tap_up_bad (L : Smp) (t2 : Int) (hb : 300 < t1 - t2) : feed ⟨2, 1, 1, 1, [⟨1, ⟨x, y, t2⟩, [⟨x, y, t2⟩]⟩], L⟩ ⟨3, 1, x, y, t1, 0⟩ = (over ⟨2, 1, 1, 1, [⟨1, ⟨x, y, t2⟩, [⟨x, y, t2⟩]⟩], L⟩, 2, []) := by
  have hd : deaf ⟨2, 1, 1, 1, [⟨1, ⟨x, y, t2⟩, [⟨x, y, t2⟩]⟩], L⟩ = false := rfl
  rw [feed_late _ _ (by rw [ev_valid x y t1 hx hy h1 3 (by omega), hd]; rfl)]
  simp [lateM, hb, fail, over]
theorem tap_up_good (L : Smp) (t2 : Int) (hb : ¬ 300 < t1 - t2) : feed ⟨2, 1, 1, 1, [⟨1, ⟨x, y, t2⟩, [⟨x, y, t2⟩]⟩], L⟩ ⟨3, 1, x, y, t1, 0⟩ = (⟨2, 1, 2, 1, [], ⟨x, y, t1⟩⟩, 1, []) := by
  have hd : deaf ⟨2, 1, 1, 1, [⟨1, ⟨x, y, t2⟩, [⟨x, y, t2⟩]⟩], L⟩ = false := rfl
  rw [feed_late _ _ (by rw [ev_valid x y t1 hx hy h1 3 (by omega), hd]; rfl)]
  have h0 : ¬ 8 < dist ⟨x, y, t1⟩ ⟨x, y, t2⟩ := by simp [dist, mx]
  simp [lateM, hb, process, find, List.findIdx?_cons, follow, still, smp, h0, succeed]
end
theorem tap_win (x y t : Int) : (win ⟨2, 1, 2, 1, [], ⟨x, y, t⟩⟩).2 = [⟨2, 1, 1, x, y, 0, 0, 1000, 0, 0⟩] := rfl
/-! a pinch -/
def pinR (a : Int) : Rec := ⟨7, 1, 1, 0, [⟨1, ⟨0, 0, 0⟩, [⟨0, 0, 0⟩]⟩, ⟨2, ⟨a, 0, 1⟩, [⟨a, 0, 1⟩]⟩], .zero⟩
def pinR2 (a b : Int) : Rec := ⟨7, 1, 1, 0, [⟨1, ⟨0, 0, 0⟩, [⟨0, 0, 0⟩]⟩, ⟨2, ⟨a, 0, 1⟩, [⟨a, 0, 1⟩, ⟨b, 0, 2⟩]⟩], .zero⟩
def pinR3 (a b s : Int) : Rec := ⟨7, 1, 1, 0, [⟨1, ⟨0, 0, 0⟩, [⟨0, 0, 0⟩, ⟨s, 0, 3⟩]⟩, ⟨2, ⟨a, 0, 1⟩, [⟨a, 0, 1⟩, ⟨b, 0, 2⟩]⟩], .zero⟩
theorem pin_dn : feed (newR 7 1) ⟨1, 1, 0, 0, 0, 0⟩ = (⟨7, 1, 1, 0, [⟨1, ⟨0, 0, 0⟩, [⟨0, 0, 0⟩]⟩], .zero⟩, 0, []) := rfl
theorem dist_x (a b t u : Int) : dist ⟨a, 0, t⟩ ⟨b, 0, u⟩ = size (a - b) := by
  simp only [dist, size, mx]; split <;> simp <;> omega
theorem dist_pos (a t u : Int) (h : 0 ≤ a) : dist ⟨0, 0, t⟩ ⟨a, 0, u⟩ = a := by
  rw [dist_x]; unfold size mx; split <;> omega
section
variable (a b s : Int) (ha : 0 ≤ a ∧ a ≤ 255) (hb : 0 ≤ b ∧ b ≤ 255) (hs : -128 ≤ s ∧ s ≤ 127)
include ha
theorem pin_dn2 : feed ⟨7, 1, 1, 0, [⟨1, ⟨0, 0, 0⟩, [⟨0, 0, 0⟩]⟩], .zero⟩ ⟨1, 2, a, 0, 1, 0⟩ = (pinR a, 0, []) := by
  have v : valid ⟨1, 2, a, 0, 1, 0⟩ = true := by simp [valid, placed, btw]; omega
  rw [feed_late _ _ (by rw [v]; rfl)]
  simp [lateM, process, find, List.findIdx?_cons, down, room, latest, smp, pinR]
include hb
theorem pin_mv : feed (pinR a) ⟨2, 2, b, 0, 2, 0⟩ = (if 8 < size (b - mx a 1) then ({ pinR2 a b with State := 2 }, 1, []) else (pinR2 a b, 0, [])) := by
  have v : valid ⟨2, 2, b, 0, 2, 0⟩ = true := by simp [valid, placed, btw]; omega
  rw [feed_late _ _ (by rw [v]; rfl)]
  have hl : lateM (pinR a) ⟨2, 2, b, 0, 2, 0⟩ = none := rfl
  have hp : process (pinR a) ⟨2, 2, b, 0, 2, 0⟩ = slide (pinR2 a b) ⟨2, 2, b, 0, 2, 0⟩ := rfl
  have hc : certain (pinR2 a b) = (decide (8 < size (b - mx a 1)), false) := by
    simp only [certain, pinR2, latest, List.getLastD_cons, List.getLastD_nil]
    rw [dist_pos b _ _ hb.1, dist_pos a _ _ ha.1]
  have h2 : slide (pinR2 a b) ⟨2, 2, b, 0, 2, 0⟩ = (if (certain (pinR2 a b)).2 then fail (pinR2 a b) else if (certain (pinR2 a b)).1 then ({ pinR2 a b with State := 2 }, 1, []) else (pinR2 a b, 0, [])) := rfl
  rw [hl, Option.getD_none, hp, h2, hc]
  simp
theorem pin_win : (win { pinR2 a b with State := 2 }).2 = [⟨7, 1, 2, fl a 2, 0, 0, 0, 1000, 0, 0⟩, ⟨7, 1, 3, fl b 2, 0, 0, 0, fl (1000 * b) (mx a 1), 0, 0⟩] := by
  have h1 : (win { pinR2 a b with State := 2 }).2 = [stageG { pinR2 a b with State := 2 } 2, stageG { pinR2 a b with State := 2 } 3] := rfl
  rw [h1]
  simp [stageG, pinR2, pinchG, latest, dist_pos a _ _ ha.1, dist_pos b _ _ hb.1, fl]
include hs
omit hb in
theorem pin_mv2 : feed (pinR2 a b) ⟨2, 1, s, 0, 3, 0⟩ = (if 8 < size (size (s - b) - mx a 1) then ({ pinR3 a b s with State := 2 }, 1, []) else (pinR3 a b s, 0, [])) := by
  have v : valid ⟨2, 1, s, 0, 3, 0⟩ = true := by simp [valid, placed, btw]; omega
  rw [feed_late _ _ (by rw [v]; rfl)]
  have hl : lateM (pinR2 a b) ⟨2, 1, s, 0, 3, 0⟩ = none := rfl
  have hp : process (pinR2 a b) ⟨2, 1, s, 0, 3, 0⟩ = slide (pinR3 a b s) ⟨2, 1, s, 0, 3, 0⟩ := rfl
  have hc : certain (pinR3 a b s) = (decide (8 < size (size (s - b) - mx a 1)), false) := by
    simp only [certain, pinR3, latest, List.getLastD_cons, List.getLastD_nil]
    rw [dist_x, dist_pos a _ _ ha.1]
  have h2 : slide (pinR3 a b s) ⟨2, 1, s, 0, 3, 0⟩ = (if (certain (pinR3 a b s)).2 then fail (pinR3 a b s) else if (certain (pinR3 a b s)).1 then ({ pinR3 a b s with State := 2 }, 1, []) else (pinR3 a b s, 0, [])) := rfl
  rw [hl, Option.getD_none, hp, h2, hc]
  simp
end
end Go.Proofs.Ytendgmnbnnkpnaa.G
