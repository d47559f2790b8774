/- An arena and an event that come in as arguments, opened. -/
import Derived.Test.YtcnmljpabmgieaaAr41
import Derived.Test.YtcnmljpabmgieaaZ0
import Derived.Deep.Slices
import Derived.Deep.Strs
import Derived.WideKeyArgs
import Derived.WalkKit
import Derived.WalkSpells
import Derived.WalkLawsBesides
import Derived.Deep.QuietTactic
import Derived.BigQuiet
import Derived.BigRegion
import Derived.Lib.Hide
import Derived.Deep.RegionWith
set_option linter.unusedSimpArgs false
set_option linter.unusedVariables false
namespace Go.Proofs.Ytcnmljpabmgieaa.R
open Go.ChangeShapes Go.WideShapes Go.ChangeAt Go.RowKit Go.Deep
theorem intl_of {H : Type} {enc : TypeId × Value → H} {W : World} {sp : Nat → Bool} {c : Value} {fuel : Nat} {x : DataW H × List MemPlace}
    (h : DataW.trod enc Try.prog W 0 sp true fuel 22 [c] = some x) : ∃ (l : List Int) (a : Option Addr) (cap : Nat), c = .slice a l.length cap ∧ RepI W a l ∧ l.length ≤ 9223372036854775807 := by
  rcases open_slice Try.underlying22 h with ⟨hcs, _⟩ | ⟨ad, l, cp, m, n, D, Pl, hcs, _, hl, hm, hmm, _, hx⟩
  · simp only [List.cons.injEq, and_true] at hcs
    subst hcs
    exact ⟨[], none, 0, rfl, .inl rfl, by simp⟩
  · simp only [List.cons.injEq, and_true] at hcs
    subst hcs
    have hlm : l ≤ m := by rw [hmm]; split <;> omega
    have each : ∀ i, i < l → ∃ x : Int, W.cell? (ad.add i) = some (.int .i64 x) := by
      intro i hi
      obtain ⟨cs', h1, h2⟩ := hx i (by omega)
      have hc : (Try.prog).cellsOf 3 = 1 := by kernel_rfl
      rw [hc, Nat.mul_one] at h1
      obtain ⟨_, hlen, hcell⟩ := World.cells?_some h1
      obtain ⟨z, hz, _, hwf⟩ := DataW.trod_int Try.underlying3 h2
      subst hz
      have := hcell 0 (by omega)
      rw [show (ad.add i).add 0 = ad.add i from rfl] at this
      exact ⟨z, by simpa using this⟩
    have hcap : l ≤ 9223372036854775807 := by unfold maxLen at hm; omega
    by_cases h0 : l = 0
    · subst h0
      exact ⟨[], _, _, rfl, .inl rfl, by simp⟩
    · obtain ⟨f, hf⟩ := choose_lt each
      have hs := World.cell?_spot (hf 0 (by omega))
      rw [show ad.add 0 = ad from rfl] at hs
      obtain ⟨b, off, spot⟩ := ad
      simp only at hs
      subst hs
      refine ⟨(List.range l).map f, some ⟨b, off, none⟩, cp, by simp, .inr ⟨b, off, rfl, ?_⟩, by simpa using hcap⟩
      intro i x hi
      have hil : i < l := by
        have := (List.getElem?_eq_some_iff.1 hi).1
        simpa using this
      have := hf i hil
      rw [Addr.add_lit] at this
      rw [List.getElem?_map, List.getElem?_range hil] at hi
      simp only [Option.map_some, Option.some.injEq] at hi
      rw [← hi]
      exact this
theorem array8 {α : Type} {cs : Array α} (h : cs.size = 8) : ∃ c0 c1 c2 c3 c4 c5 c6 c7, cs = #[c0, c1, c2, c3, c4, c5, c6, c7] := by
  obtain ⟨l⟩ := cs
  match l, h with
  | [c0, c1, c2, c3, c4, c5, c6, c7], _ => exact ⟨c0, c1, c2, c3, c4, c5, c6, c7, rfl⟩
theorem arr2 {α : Type} {cs : Array α} (h : cs.size = 2) : ∃ c0 c1, cs = #[c0, c1] := by
  obtain ⟨l⟩ := cs
  match l, h with
  | [c0, c1], _ => exact ⟨c0, c1, rfl⟩
theorem arena_of {H : Type} {enc : TypeId × Value → H} {W : World} {sp : Nat → Bool} {v : Value} {d : DataW H} {p : List MemPlace} {rc : Reach} {bs : Nat}
    (ok : Value.okWide Try.prog W rc bs 24 v) (h : DataW.Trod enc Try.prog W 0 sp true 24 v d p) :
    ∃ (a : Arn) (la : Option Addr) (lc : Nat) (ha : Option Addr) (hc : Nat), v = .agg #[.int .i64 (a).Members, .slice la (a).Left.length lc, .bool (a).Open, .int .i64 (a).Eager, .slice ha (a).Holds.length hc, .bool (a).Swept, .int .i64 (a).Winner, .bool (a).Done] ∧ RepI W la a.Left ∧ RepI W ha a.Holds ∧ a.Left.length ≤ 9223372036854775807 ∧ a.Holds.length ≤ 9223372036854775807 := by
  obtain ⟨cs, rfl, hsz⟩ := okWide_struct Try.underlying24 ok
  have hc8 : (Try.prog).cellsOf 24 = 8 := by kernel_rfl
  rw [hc8] at hsz
  obtain ⟨c0, c1, c2, c3, c4, c5, c6, c7, rfl⟩ := array8 hsz
  obtain ⟨fuel, hf⟩ := h
  obtain ⟨xs, n, _, _, _, hlen, hall⟩ := DataW.trod_struct Try.underlying24 hf
  match xs, hlen with
  | [y0, y1, y2, y3, y4, y5, y6, y7], _ =>
  have e1 : (Try.prog).cellsOf 3 = 1 := by kernel_rfl
  have e2 : (Try.prog).cellsOf 22 = 1 := by kernel_rfl
  have e3 : (Try.prog).cellsOf 4 = 1 := by kernel_rfl
  have g0 : DataW.trod enc Try.prog W 0 sp true n 3 [c0] = some y0 := by simpa [Value.cells, e1, e2, e3] using hall 0 _ rfl
  have g1 : DataW.trod enc Try.prog W 0 sp true n 22 [c1] = some y1 := by simpa [Value.cells, e1, e2, e3] using hall 1 _ rfl
  have g2 : DataW.trod enc Try.prog W 0 sp true n 4 [c2] = some y2 := by simpa [Value.cells, e1, e2, e3] using hall 2 _ rfl
  have g3 : DataW.trod enc Try.prog W 0 sp true n 3 [c3] = some y3 := by simpa [Value.cells, e1, e2, e3] using hall 3 _ rfl
  have g4 : DataW.trod enc Try.prog W 0 sp true n 22 [c4] = some y4 := by simpa [Value.cells, e1, e2, e3] using hall 4 _ rfl
  have g5 : DataW.trod enc Try.prog W 0 sp true n 4 [c5] = some y5 := by simpa [Value.cells, e1, e2, e3] using hall 5 _ rfl
  have g6 : DataW.trod enc Try.prog W 0 sp true n 3 [c6] = some y6 := by simpa [Value.cells, e1, e2, e3] using hall 6 _ rfl
  have g7 : DataW.trod enc Try.prog W 0 sp true n 4 [c7] = some y7 := by simpa [Value.cells, e1, e2, e3] using hall 7 _ rfl
  obtain ⟨x0, h0, _⟩ := DataW.trod_int Try.underlying3 g0
  obtain ⟨l1, a1, k1, rfl, r1, b1⟩ := intl_of g1
  obtain ⟨x2, h2, _⟩ := DataW.trod_bool Try.underlying4 g2
  obtain ⟨x3, h3, _⟩ := DataW.trod_int Try.underlying3 g3
  obtain ⟨l4, a4, k4, rfl, r4, b4⟩ := intl_of g4
  obtain ⟨x5, h5, _⟩ := DataW.trod_bool Try.underlying4 g5
  obtain ⟨x6, h6, _⟩ := DataW.trod_int Try.underlying3 g6
  obtain ⟨x7, h7, _⟩ := DataW.trod_bool Try.underlying4 g7
  simp only [List.cons.injEq, and_true] at h0 h2 h3 h5 h6 h7
  subst h0 h2 h3 h5 h6 h7
  exact ⟨⟨x0, l1, x2, x3, l4, x5, x6, x7⟩, a1, k1, a4, k4, rfl, r1, r4, b1, b4⟩
theorem event_of {H : Type} {enc : TypeId × Value → H} {W : World} {sp : Nat → Bool} {v : Value} {d : DataW H} {p : List MemPlace} {rc : Reach} {bs : Nat}
    (ok : Value.okWide Try.prog W rc bs 26 v) (h : DataW.Trod enc Try.prog W 0 sp true 26 v d p) :
    ∃ (K M : Int), v = .agg #[.int .i64 K, .int .i64 M] := by
  obtain ⟨cs, rfl, hsz⟩ := okWide_struct Try.underlying26 ok
  have hc2 : (Try.prog).cellsOf 26 = 2 := by kernel_rfl
  rw [hc2] at hsz
  obtain ⟨c0, c1, rfl⟩ := arr2 hsz
  obtain ⟨fuel, hf⟩ := h
  obtain ⟨xs, n, _, _, _, hlen, hall⟩ := DataW.trod_struct Try.underlying26 hf
  match xs, hlen with
  | [y0, y1], _ =>
  have e1 : (Try.prog).cellsOf 3 = 1 := by kernel_rfl
  have g0 : DataW.trod enc Try.prog W 0 sp true n 3 [c0] = some y0 := by simpa [Value.cells, e1] using hall 0 _ rfl
  have g1 : DataW.trod enc Try.prog W 0 sp true n 3 [c1] = some y1 := by simpa [Value.cells, e1] using hall 1 _ rfl
  obtain ⟨x0, h0, _⟩ := DataW.trod_int Try.underlying3 g0
  obtain ⟨x1, h1, _⟩ := DataW.trod_int Try.underlying3 g1
  simp only [List.cons.injEq, and_true] at h0 h1
  subst h0 h1
  exact ⟨x0, x1, rfl⟩
end Go.Proofs.Ytcnmljpabmgieaa.R
