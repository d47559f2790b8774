/- GestureAxes: what the calls are, for each kind. -/
import Derived.Test.YtendgmnbnnkpnaaL1
import Derived.Test.YtendgmnbnnkpnaaP2
import Derived.WalkKit
import Derived.WalkSpells
import Derived.WalkLawsBesides
import Derived.Deep.QuietTactic
import Derived.BigQuiet
import Derived.BigRegion
import Derived.Lib.Hide
import Derived.Deep.RegionWith
set_option linter.unusedSimpArgs false
set_option linter.unusedVariables false
namespace Go.Proofs.Ytendgmnbnnkpnaa.G
open Go.RowKit
theorem repG_pair {w : World} {v : Value} {g k : Ges} (h : RepG w v [g, k]) : ∃ b off c, v = .slice (some ⟨b, off, none⟩) 2 c ∧ GesAt w b off g ∧ GesAt w b (off + 10) k := by
  rcases h with ⟨h, _⟩ | ⟨b, off, cg, rfl, h⟩
  · cases h
  · exact ⟨b, off, cg, rfl, by simpa using h 0 _ rfl, by simpa using h 1 _ rfl⟩
def FeedC (r : Rec) (e : Ev) (q : Rec × Int × List Ges) : Prop := ∀ (w : World) (a : Option Addr) (c : Nat), RepT w a r.Ts → Calls Try.prog 20 #[.agg #[.int .i64 (r).Kind, .int .i64 (r).Node, .int .i64 (r).State, .int .i64 (r).Count, .slice a (r).Ts.length c, .int .i64 (r).L.X, .int .i64 (r).L.Y, .int .i64 (r).L.T], .agg #[.int .i64 (e).Kind, .int .i64 (e).ID, .int .i64 (e).X, .int .i64 (e).Y, .int .i64 (e).Time, .int .i64 (e).Wheel]] w fun x w' => ∃ u, x = .returned u ∧ Ext w w' ∧ FeedF q u w' ∧ ∀ b, u.blk = some b → w.heap.size ≤ b ∧ b < w'.heap.size
def WinC (r : Rec) (gs : List Ges) : Prop := ∀ (w : World) (a : Option Addr) (c : Nat), RepT w a r.Ts → Calls Try.prog 22 #[.agg #[.int .i64 (r).Kind, .int .i64 (r).Node, .int .i64 (r).State, .int .i64 (r).Count, .slice a (r).Ts.length c, .int .i64 (r).L.X, .int .i64 (r).L.Y, .int .i64 (r).L.T]] w fun x w' =>
      ∃ a' c' v, x = .returned (.tuple #[.agg #[.int .i64 ((win r).1).Kind, .int .i64 ((win r).1).Node, .int .i64 ((win r).1).State, .int .i64 ((win r).1).Count, .slice a' ((win r).1).Ts.length c', .int .i64 ((win r).1).L.X, .int .i64 ((win r).1).L.Y, .int .i64 ((win r).1).L.T], v]) ∧ Ext w w' ∧ TsO w' a' c' (win r).1.Ts ∧ RepG w' v gs
theorem feedC {r : Rec} (h : Sound r) (e : Ev) : FeedC r e (feed r e) := fun w a c hr => feed_mk r e h.ok a c w hr
theorem winC {r : Rec} (h : Sound r) : WinC r (win r).2 := fun w a c hr => win_x r h.ok a c w hr
theorem axes_facts (k x y : Int) (hk : k = 4 ∨ k = 5 ∨ k = 6) (hx : -128 ≤ x ∧ x ≤ 127) (hy : -128 ≤ y ∧ y ≤ 127) (c1 c2 c3 c4 : Bool)
    (h1 : decide (8 < mx x (-x)) = c1) (h2 : decide (8 < mx y (-y)) = c2) (h3 : decide (mx y (-y) ≤ mx x (-x)) = c3) (h4 : decide (mx x (-x) < mx y (-y)) = c4) :
    ∃ q1 q2, FeedC (newR k 1) ⟨1, 1, 0, 0, 0, 0⟩ q1 ∧ FeedC q1.1 ⟨2, 1, x, y, 10, 0⟩ q2 ∧
      WinC q2.1 (if (if k = 4 then c1 && c3 else if k = 5 then c2 && c4 else c1 || c2) then [⟨k, 1, 2, 0, 0, 0, 0, 1000, 0, 0⟩, ⟨k, 1, 3, x, y, if k = 5 then 0 else x, if k = 4 then 0 else y, 1000, 0, 0⟩] else []) ∧
      q2.2.1 = (if (if k = 4 then c1 && c3 else if k = 5 then c2 && c4 else c1 || c2) then 1 else if c1 || c2 then 2 else 0) := by
  have s0 : Sound (newR k 1) := newR_sound (by rcases hk with rfl | rfl | rfl <;> rfl) rfl
  have s1 := s0.feed ⟨1, 1, 0, 0, 0, 0⟩
  have s2 := s1.feed ⟨2, 1, x, y, 10, 0⟩
  obtain ⟨e1, e2⟩ := axes_feed k x y hk hx hy
  obtain ⟨a1, a2, a3⟩ := axes_slide k x y hk
  obtain ⟨b1, b2, b3⟩ := axes_win k x y hk
  have hw : (if k = 4 then c1 && c3 else if k = 5 then c2 && c4 else c1 || c2) = axW k x y := by
    rw [← h1, ← h2, ← h3, ← h4]
    unfold axW size
    rcases hk with rfl | rfl | rfl
    · simp
    · simp
    · simp only [show ¬ (6 : Int) = 4 by decide, show ¬ (6 : Int) = 5 by decide, if_false]
      rw [Bool.eq_iff_iff]; simp [lt_mx]
  have hf : (c1 || c2) = decide (8 < size x ∨ 8 < size y) := by
    rw [← h1, ← h2]; unfold size; rw [Bool.eq_iff_iff]; simp
  rw [hw, hf]
  refine ⟨_, _, feedC s0 _, feedC s1 _, ?_, ?_⟩
  · have := winC s2
    rw [e1] at this ⊢
    simp only at this ⊢
    rw [e2] at this ⊢
    cases hb : axW k x y
    · by_cases hh : 8 < size x ∨ 8 < size y
      · rw [a2 hb hh] at this ⊢; simp only at this ⊢; rw [b2] at this; exact this
      · rw [a3 hb hh] at this ⊢; simp only at this ⊢; rw [b3] at this; exact this
    · rw [a1 hb] at this ⊢; simp only at this ⊢; rw [b1] at this; exact this
  · rw [e1]
    simp only
    rw [e2]
    cases hb : axW k x y
    · by_cases hh : 8 < size x ∨ 8 < size y
      · rw [a2 hb hh, decide_eq_true hh]; rfl
      · rw [a3 hb hh, decide_eq_false hh]; rfl
    · rw [a1 hb]; rfl
end Go.Proofs.Ytendgmnbnnkpnaa.G
