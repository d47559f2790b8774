/- The package of draws: N, Range, More, New (for any seat). -/
import Derived.Test.YtcnmljpabmgieaaUA
import Derived.Test.YtcnmljpabmgieaaChecked
import Derived.WalkKit
import Derived.WalkSpells
import Derived.WalkLawsBesides
import Derived.Deep.QuietTactic
import Derived.BigQuiet
import Derived.BigRegion
import Derived.Lib.Hide
import Derived.Deep.RegionWith
set_option linter.unusedSimpArgs false
set_option linter.unusedVariables false
namespace Go
open Go.RowKit
theorem sc_same {w : World} {S i : Nat} {cs : Array Value} {T : TypeId} {fr : Nat × Nat} {v : Value} (h : w.heap[S]? = some (.cells cs T fr)) (hv : cs[i]? = some v) : w.setCell ⟨S, i, none⟩ v = w := by
  unfold World.setCell
  congr 1
  apply Array.ext_getElem?
  intro k
  rw [Array.getElem?_modify]
  by_cases hk : S = k
  · subst hk
    simp only [if_true, h, Option.map_some]
    congr 2
    apply Array.ext_getElem?
    intro j
    simp only [Option.isSome_none, Bool.false_eq_true, if_false]
    rw [Array.getElem?_setIfInBounds]
    by_cases hj : i = j
    · subst hj
      obtain ⟨hl, he⟩ := Array.getElem?_eq_some_iff.1 hv
      simp [hl, he]
    · simp [hj]
  · simp [hk]
theorem sc_heap {w : World} {S i : Nat} {cs : Array Value} {T : TypeId} {fr : Nat × Nat} {v : Value} (h : w.heap[S]? = some (.cells cs T fr)) : (w.setCell ⟨S, i, none⟩ v).heap[S]? = some (.cells (cs.setIfInBounds i v) T fr) := by
  unfold World.setCell
  simp [Array.getElem?_modify, h]
theorem sc_heap_ne {w : World} {S i b : Nat} {v : Value} (h : b ≠ S) : (w.setCell ⟨S, i, none⟩ v).heap[b]? = w.heap[b]? := by
  unfold World.setCell
  simp only [Array.getElem?_modify]
  rw [if_neg (fun e : S = b => h e.symm)]
end Go
namespace Go.Proofs.Ytcnmljpabmgieaa.G
open Go.RowKit
/-- a reader of numbers lies at a block S -/
structure SrcAt (w : World) (S n at_ : Nat) : Prop where
  row : ∃ (a : Option Addr) (cap : Nat), w.heap[S]? = some (.cells #[.slice a n cap, .int .i64 at_] 57) ∧ (n = 0 ∨ ∃ b off, a = some ⟨b, off, none⟩ ∧ b ≠ S ∧ ∀ i, i < n → ∃ x : Int, -9223372036854775808 ≤ x ∧ x ≤ 9223372036854775807 ∧ w.cell? ⟨b, off + i, none⟩ = some (.int .i64 x))
  le : at_ ≤ n
  n : n ≤ 4000
/-- what a draw leaves -/
def Drawn (w : World) (S n at_ : Nat) (w' : World) : Prop := ∃ (at' : Nat) (d : Grow), at_ ≤ at' ∧ at' ≤ n ∧ w' = (w.setCell ⟨S, 1, none⟩ (.int .i64 at')).ext d
theorem drawn_one {w : World} {S n at_ : Nat} {d : Grow} (h : at_ < n) : Drawn w S n at_ ((w.setCell ⟨S, 1, none⟩ (.int .i64 ((at_ : Int) + 1))).ext d) := ⟨at_ + 1, d, by omega, by omega, by rw [Int.natCast_add]; rfl⟩
theorem drawn_none {w : World} {S n at_ : Nat} {d : Grow} (h : at_ ≤ n) (hs : w.setCell ⟨S, 1, none⟩ (.int .i64 at_) = w) : Drawn w S n at_ (w.ext d) := ⟨at_, d, by omega, h, by rw [hs]⟩
set_option maxHeartbeats 2000000 in
theorem src_N (w : World) (S n at_ : Nat) (h : SrcAt w S n at_) (m : Int) (hm : -9223372036854775808 ≤ m ∧ m ≤ 9223372036854775807) :
    Calls Try.prog 18 #[.pointer (some ⟨S, 0, none⟩), .int .i64 m] w fun e w' => ∃ x : Int, e = .returned (.int .i64 x) ∧ (1 ≤ m → 0 ≤ x ∧ x < m) ∧ (m < 1 → x = 0) ∧ Drawn w S n at_ w' := by
  obtain ⟨⟨a, cap, hS, hl⟩, hle, hn⟩ := h
  have s0 : w.cell? ⟨S, 0, none⟩ = some (.slice a n cap) := by simp only [World.cell?, hS]; rfl
  have s1 : w.cell? ⟨S, 1, none⟩ = some (.int .i64 at_) := by simp only [World.cell?, hS]; rfl
  have hlt : S < w.heap.size := (Array.getElem?_eq_some_iff.1 hS).1
  have hfz : w.frozen? ⟨S, 1, none⟩ = false := by simp only [World.frozen?, hS]; rfl
  have hsame := Lib.hid (sc_same (w := w) (S := S) (i := 1) (v := .int .i64 at_) hS rfl)
  clear hS
  obtain ⟨m1, m2⟩ := hm
  by_cases hq : at_ < n ∧ 1 ≤ m
  · obtain ⟨q1, q2⟩ := hq
    obtain ⟨b, off, rfl, hne, hc⟩ := hl.resolve_left (by omega)
    obtain ⟨x, x1, x2, hx⟩ := hc at_ q1
    have hb := World.block_lt_of_cell? w ⟨b, off + at_, none⟩ hx
    simp only at hb
    have b1 : decide ((n : Int) ≤ (at_ : Int)) = false := by simp; omega
    have b1' : decide (n ≤ at_) = false := by simp; omega
    have b2 : decide (m < 1) = false := by simp; omega
    have hm0 : (m == 0) = false := by simp; omega
    clear hc hl
    obtain ⟨y, hy⟩ : ∃ y, x.tmod m = y := ⟨_, rfl⟩
    have hyb : -m < y ∧ y < m := by
      subst hy
      exact ⟨Int.lt_tmod_of_pos _ (by omega), Int.tmod_lt_of_pos _ (by omega)⟩
    obtain ⟨y1, y2⟩ := hyb
    rcases hs : decide (y < 0) with _ | _
    all_goals
      have hs2 := hs
      simp only [decide_eq_true_eq, decide_eq_false_iff_not] at hs2
      go_enter Try.func18, Try.ntmps18
      go_wp2
      (refine wp_region_ext (by kernel_rfl) (by kernel_rfl) ?_; (repeat (go_big_quiet_step ((fail)))); refine wpQuiet_nil ?_; intro _ hwq; obtain ⟨dq, hwq⟩ := hwq; subst hwq)
      go_wp2
      (refine wp_region_ext (by kernel_rfl) (by kernel_rfl) ?_; (repeat (go_big_quiet_step ((fail)))); refine wpQuiet_nil ?_; intro _ hwq; obtain ⟨dq, hwq⟩ := hwq; subst hwq)
      go_wp2
      go_ret
      simp only [World.ext_ext]
      refine ⟨_, rfl, fun _ => ?_, fun h => by omega, drawn_one q1⟩
      omega
  · have hz : (decide ((n : Int) ≤ (at_ : Int)) = true ∧ decide (n ≤ at_) = true) ∨ (decide ((n : Int) ≤ (at_ : Int)) = false ∧ decide (n ≤ at_) = false ∧ decide (m < 1) = true) := by
      by_cases h1 : at_ < n
      · exact .inr ⟨by simp; omega, by simp; omega, by simp; omega⟩
      · exact .inl ⟨by simp; omega, by simp; omega⟩
    have hm3 : 1 ≤ m → n ≤ at_ := fun h => by omega
    replace hm3 := Lib.hid hm3
    clear hl hq
    rcases hz with ⟨z1, z2⟩ | ⟨z1, z2, z3⟩
    all_goals
      go_enter Try.func18, Try.ntmps18
      go_wp2
      (refine wp_region_ext (by kernel_rfl) (by kernel_rfl) ?_; (repeat (go_big_quiet_step ((fail)))); refine wpQuiet_nil ?_; intro _ hwq; obtain ⟨dq, hwq⟩ := hwq; subst hwq)
      go_wp2
      go_ret
      refine ⟨0, rfl, fun h => ⟨by omega, by omega⟩, fun _ => rfl, ?_⟩
      exact drawn_none hle hsame.out
theorem src_Range (w : World) (S n at_ : Nat) (h : SrcAt w S n at_) (lo hi : Int) (h1 : -100000 ≤ lo) (h2 : lo ≤ hi) (h3 : hi ≤ 100000) :
    Calls Try.prog 32 #[.pointer (some ⟨S, 0, none⟩), .int .i64 lo, .int .i64 hi] w fun e w' => ∃ x : Int, e = .returned (.int .i64 x) ∧ lo ≤ x ∧ x ≤ hi ∧ Drawn w S n at_ w' := by
  have hN := Lib.hid (src_N w S n at_ h (hi - lo + 1) (by omega))
  clear h
  go_enter Try.func32, Try.ntmps32
  go_wp2_with fail
  refine Calls.mono hN.out ?_
  rintro _ w1 ⟨x, rfl, hx, _, hd⟩
  obtain ⟨x1, x2⟩ := hx (by omega)
  replace hd := Lib.hid hd
  go_wp2
  go_ret
  exact ⟨_, rfl, by omega, by omega, hd.out⟩
theorem Drawn.src {w w' : World} {S n at_ at2 : Nat} (h : SrcAt w S n at_) (hd : Drawn w S n at2 w') : ∃ at', SrcAt w' S n at' := by
  obtain ⟨at', d, h1, h2, rfl⟩ := hd
  obtain ⟨⟨a, cap, hS, hl⟩, hle, hn⟩ := h
  refine ⟨at', ⟨a, cap, heap_some_ext (sc_heap (i := 1) (v := .int .i64 at') hS) (Ext.ext (Ext.refl _) d), ?_⟩, h2, hn⟩
  rcases hl with hl | ⟨b, off, ha, hne, hc⟩
  · exact .inl hl
  · refine .inr ⟨b, off, ha, hne, fun i hi => ?_⟩
    obtain ⟨x, x1, x2, hx⟩ := hc i hi
    refine ⟨x, x1, x2, (Ext.ext (Ext.refl _) d).cell_some ?_⟩
    simp only [World.cell?, sc_heap_ne hne]; simpa only [World.cell?] using hx
theorem SrcAt.ext {w w' : World} {S n at_ : Nat} (h : SrcAt w S n at_) (he : Ext w w') : SrcAt w' S n at_ := by
  obtain ⟨⟨a, cap, hS, hl⟩, hle, hn⟩ := h
  refine ⟨⟨a, cap, heap_some_ext hS he, ?_⟩, hle, hn⟩
  rcases hl with hl | ⟨b, off, ha, hne, hc⟩
  · exact .inl hl
  · exact .inr ⟨b, off, ha, hne, fun i hi => let ⟨x, x1, x2, hx⟩ := hc i hi; ⟨x, x1, x2, he.cell_some hx⟩⟩
set_option maxHeartbeats 1000000 in
theorem src_New (w : World) (a : Option Addr) (n cap : Nat) (hc : n ≤ cap) (hm : cap ≤ 9223372036854775807) (hl : n = 0 ∨ ∃ b off, a = some ⟨b, off, none⟩ ∧ ∀ i, i < n → ∃ x : Int, -9223372036854775808 ≤ x ∧ x ≤ 9223372036854775807 ∧ w.cell? ⟨b, off + i, none⟩ = some (.int .i64 x)) :
    Calls Try.prog 17 #[.slice a n cap] w fun e w' => ∃ S n', e = .returned (.pointer (some ⟨S, 0, none⟩)) ∧ Ext w w' ∧ w.heap.size ≤ S ∧ SrcAt w' S n' 0 := by
  by_cases hn : n ≤ 4000
  · have h1 : decide ((4000 : Int) < (n : Int)) = false := by simp; omega
    replace hl := Lib.hid hl
    go_enter Try.func17, Try.ntmps17
    go_wp2
    go_ret
    refine ⟨w.heap.size, n, rfl, by (repeat (first | exact Ext.refl _ | assumption | refine Ext.alloc ?_ _ | refine Ext.ext ?_ _ | refine Ext.drew ?_)), Nat.le_refl _, ⟨a, cap, heap_alloc_new _ _, ?_⟩, Nat.zero_le _, hn⟩
    rcases hl.out with h | ⟨b, off, rfl, h⟩
    · exact .inl h
    · by_cases h0 : n = 0
      · exact .inl h0
      · refine .inr ⟨b, off, rfl, ?_, fun i hi => let ⟨x, x1, x2, hx⟩ := h i hi; ⟨x, x1, x2, (Ext.alloc (Ext.refl _) _).cell_some hx⟩⟩
        obtain ⟨x, _, _, hx⟩ := h 0 (by omega)
        have := World.block_lt_of_cell? w ⟨b, off + 0, none⟩ hx
        simp only at this
        omega
  · have h1 : decide ((4000 : Int) < (n : Int)) = true := by simp; omega
    obtain ⟨b, off, rfl, h⟩ := hl.resolve_left (by omega)
    replace h := Lib.hid h
    go_enter Try.func17, Try.ntmps17
    go_wp2
    go_ret
    refine ⟨w.heap.size, 4000, rfl, by (repeat (first | exact Ext.refl _ | assumption | refine Ext.alloc ?_ _ | refine Ext.ext ?_ _ | refine Ext.drew ?_)), Nat.le_refl _, ⟨some ⟨b, off, none⟩, cap, heap_alloc_new _ _, ?_⟩, Nat.zero_le _, by omega⟩
    refine .inr ⟨b, off, rfl, ?_, fun i hi => let ⟨x, x1, x2, hx⟩ := h.out i (by omega); ⟨x, x1, x2, (Ext.alloc (Ext.refl _) _).cell_some hx⟩⟩
    obtain ⟨x, _, _, hx⟩ := h.out 0 (by omega)
    have := World.block_lt_of_cell? w ⟨b, off + 0, none⟩ hx
    simp only at this
    omega
theorem SrcAt.lt {w : World} {S n at_ : Nat} (h : SrcAt w S n at_) : S < w.heap.size := by
  obtain ⟨⟨a, cap, hS, _⟩, _, _⟩ := h
  exact (Array.getElem?_eq_some_iff.1 hS).1
set_option maxHeartbeats 2000000 in
theorem src_More (w : World) (S n at_ : Nat) (h : SrcAt w S n at_) :
    Calls Try.prog 19 #[.pointer (some ⟨S, 0, none⟩)] w fun e w' => ∃ b : Bool, e = .returned (.bool b) ∧ Ext w w' := by
  obtain ⟨⟨a, cap, hS, hl⟩, hle, hn⟩ := h
  have s0 : w.cell? ⟨S, 0, none⟩ = some (.slice a n cap) := by simp only [World.cell?, hS]; rfl
  have s1 : w.cell? ⟨S, 1, none⟩ = some (.int .i64 at_) := by simp only [World.cell?, hS]; rfl
  have hlt : S < w.heap.size := (Array.getElem?_eq_some_iff.1 hS).1
  clear hS hl
  rcases hb : decide ((at_ : Int) < (n : Int)) with _ | _
  all_goals
    have hb2 : decide (at_ < n) = decide ((at_ : Int) < (n : Int)) := by rw [Bool.eq_iff_iff]; simp
    rw [hb] at hb2
    go_enter Try.func19, Try.ntmps19
    go_wp2
    (refine wp_region_ext (by kernel_rfl) (by kernel_rfl) ?_; (repeat (go_big_quiet_step ((fail)))); refine wpQuiet_nil ?_; intro _ hwq; obtain ⟨dq, hwq⟩ := hwq; subst hwq)
    go_wp2
    go_ret
    exact ⟨_, rfl, Ext.ext (Ext.refl _) _⟩
end Go.Proofs.Ytcnmljpabmgieaa.G
