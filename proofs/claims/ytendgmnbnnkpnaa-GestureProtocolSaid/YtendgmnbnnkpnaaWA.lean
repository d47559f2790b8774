/- The package of draws: N, Raw, Range, Chance. The package of draws: Pointers. -/
import Derived.Test.YtendgmnbnnkpnaaUA
import Derived.Test.YtendgmnbnnkpnaaUB
import Derived.Deep.DeepCutAuto
import Derived.WalkKit
import Derived.WalkSpells
import Derived.WalkLawsBesides
import Derived.Deep.QuietTactic
import Derived.BigQuiet
import Derived.BigRegion
import Derived.Lib.Hide
import Derived.Deep.RegionWith
set_option linter.unusedSimpArgs false
set_option linter.unusedVariables false
namespace Go
open Go.RowKit
theorem setCell_same {w : World} {S i : Nat} {cs : Array Value} {T : TypeId} {fr : Nat × Nat} {v : Value} (h : w.heap[S]? = some (.cells cs T fr)) (hv : cs[i]? = some v) : w.setCell ⟨S, i, none⟩ v = w := by
  unfold World.setCell
  congr 1
  apply Array.ext_getElem?
  intro k
  rw [Array.getElem?_modify]
  by_cases hk : S = k
  · subst hk
    simp only [if_true, h, Option.map_some]
    congr 2
    apply Array.ext_getElem?
    intro j
    simp only [Option.isSome_none, Bool.false_eq_true, if_false]
    rw [Array.getElem?_setIfInBounds]
    by_cases hj : i = j
    · subst hj
      obtain ⟨hl, he⟩ := Array.getElem?_eq_some_iff.1 hv
      simp [hl, he]
    · simp [hj]
  · simp [hk]
theorem setCell_heap {w : World} {S i : Nat} {cs : Array Value} {T : TypeId} {fr : Nat × Nat} {v : Value} (h : w.heap[S]? = some (.cells cs T fr)) : (w.setCell ⟨S, i, none⟩ v).heap[S]? = some (.cells (cs.setIfInBounds i v) T fr) := by
  unfold World.setCell
  simp [Array.getElem?_modify, h]
theorem setCell_heap_ne {w : World} {S i b : Nat} {v : Value} (h : b ≠ S) : (w.setCell ⟨S, i, none⟩ v).heap[b]? = w.heap[b]? := by
  unfold World.setCell
  simp only [Array.getElem?_modify]
  rw [if_neg (fun e : S = b => h e.symm)]
end Go
namespace Go.Proofs.Ytendgmnbnnkpnaa.G
open Go.RowKit
/-- a reader of numbers lies at a block S -/
structure SrcAt (w : World) (S n at_ : Nat) : Prop where
  row : ∃ (a : Option Addr) (cap : Nat), w.heap[S]? = some (.cells #[.slice a n cap, .int .i64 at_] 76) ∧ (n = 0 ∨ ∃ b off, a = some ⟨b, off, none⟩ ∧ b ≠ S ∧ ∀ i, i < n → ∃ x : Int, -9223372036854775808 ≤ x ∧ x ≤ 9223372036854775807 ∧ w.cell? ⟨b, off + i, none⟩ = some (.int .i64 x))
  le : at_ ≤ n
  n : n ≤ 4000
/-- what a draw leaves -/
def Drawn (w : World) (S n at_ : Nat) (w' : World) : Prop := ∃ (at' : Nat) (d : Grow), at_ ≤ at' ∧ at' ≤ n ∧ w' = (w.setCell ⟨S, 1, none⟩ (.int .i64 at')).ext d
theorem drawn_one {w : World} {S n at_ : Nat} {d : Grow} (h : at_ < n) : Drawn w S n at_ ((w.setCell ⟨S, 1, none⟩ (.int .i64 ((at_ : Int) + 1))).ext d) := ⟨at_ + 1, d, by omega, by omega, by rw [Int.natCast_add]; rfl⟩
theorem drawn_none {w : World} {S n at_ : Nat} {d : Grow} (h : at_ ≤ n) (hs : w.setCell ⟨S, 1, none⟩ (.int .i64 at_) = w) : Drawn w S n at_ (w.ext d) := ⟨at_, d, by omega, h, by rw [hs]⟩
set_option maxHeartbeats 2000000 in
theorem src_N (w : World) (S n at_ : Nat) (h : SrcAt w S n at_) (m : Int) (hm : -9223372036854775808 ≤ m ∧ m ≤ 9223372036854775807) :
    Calls Try.prog 27 #[.pointer (some ⟨S, 0, none⟩), .int .i64 m] w fun e w' => ∃ x : Int, e = .returned (.int .i64 x) ∧ (1 ≤ m → 0 ≤ x ∧ x < m) ∧ (m < 1 → x = 0) ∧ Drawn w S n at_ w' := by
  obtain ⟨⟨a, cap, hS, hl⟩, hle, hn⟩ := h
  have s0 : w.cell? ⟨S, 0, none⟩ = some (.slice a n cap) := by simp only [World.cell?, hS]; rfl
  have s1 : w.cell? ⟨S, 1, none⟩ = some (.int .i64 at_) := by simp only [World.cell?, hS]; rfl
  have hlt : S < w.heap.size := (Array.getElem?_eq_some_iff.1 hS).1
  have hfz : w.frozen? ⟨S, 1, none⟩ = false := by simp only [World.frozen?, hS]; rfl
  have hsame := Lib.hid (setCell_same (w := w) (S := S) (i := 1) (v := .int .i64 at_) hS rfl)
  clear hS
  obtain ⟨m1, m2⟩ := hm
  by_cases hq : at_ < n ∧ 1 ≤ m
  · obtain ⟨q1, q2⟩ := hq
    obtain ⟨b, off, rfl, hne, hc⟩ := hl.resolve_left (by omega)
    obtain ⟨x, x1, x2, hx⟩ := hc at_ q1
    have hb := World.block_lt_of_cell? w ⟨b, off + at_, none⟩ hx
    simp only at hb
    have b1 : decide ((n : Int) ≤ (at_ : Int)) = false := by simp; omega
    have b1' : decide (n ≤ at_) = false := by simp; omega
    have b2 : decide (m < 1) = false := by simp; omega
    have hm0 : (m == 0) = false := by simp; omega
    clear hc hl
    obtain ⟨y, hy⟩ : ∃ y, x.tmod m = y := ⟨_, rfl⟩
    have hyb : -m < y ∧ y < m := by
      subst hy
      exact ⟨Int.lt_tmod_of_pos _ (by omega), Int.tmod_lt_of_pos _ (by omega)⟩
    obtain ⟨y1, y2⟩ := hyb
    rcases hs : decide (y < 0) with _ | _
    all_goals
      have hs2 := hs
      simp only [decide_eq_true_eq, decide_eq_false_iff_not] at hs2
      go_enter Try.func27, Try.ntmps27
      go_wp2
      (refine wp_region_ext (by kernel_rfl) (by kernel_rfl) ?_; (repeat (go_big_quiet_step ((fail)))); refine wpQuiet_nil ?_; intro _ hwq; obtain ⟨dq, hwq⟩ := hwq; subst hwq)
      go_wp2
      (refine wp_region_ext (by kernel_rfl) (by kernel_rfl) ?_; (repeat (go_big_quiet_step ((fail)))); refine wpQuiet_nil ?_; intro _ hwq; obtain ⟨dq, hwq⟩ := hwq; subst hwq)
      go_wp2
      go_ret
      simp only [World.ext_ext]
      refine ⟨_, rfl, fun _ => ?_, fun h => by omega, drawn_one q1⟩
      omega
  · have hz : (decide ((n : Int) ≤ (at_ : Int)) = true ∧ decide (n ≤ at_) = true) ∨ (decide ((n : Int) ≤ (at_ : Int)) = false ∧ decide (n ≤ at_) = false ∧ decide (m < 1) = true) := by
      by_cases h1 : at_ < n
      · exact .inr ⟨by simp; omega, by simp; omega, by simp; omega⟩
      · exact .inl ⟨by simp; omega, by simp; omega⟩
    have hm3 : 1 ≤ m → n ≤ at_ := fun h => by omega
    replace hm3 := Lib.hid hm3
    clear hl hq
    rcases hz with ⟨z1, z2⟩ | ⟨z1, z2, z3⟩
    all_goals
      go_enter Try.func27, Try.ntmps27
      go_wp2
      (refine wp_region_ext (by kernel_rfl) (by kernel_rfl) ?_; (repeat (go_big_quiet_step ((fail)))); refine wpQuiet_nil ?_; intro _ hwq; obtain ⟨dq, hwq⟩ := hwq; subst hwq)
      go_wp2
      go_ret
      refine ⟨0, rfl, fun h => ⟨by omega, by omega⟩, fun _ => rfl, ?_⟩
      exact drawn_none hle hsame.out
theorem src_Range (w : World) (S n at_ : Nat) (h : SrcAt w S n at_) (lo hi : Int) (h1 : -100000 ≤ lo) (h2 : lo ≤ hi) (h3 : hi ≤ 100000) :
    Calls Try.prog 18 #[.pointer (some ⟨S, 0, none⟩), .int .i64 lo, .int .i64 hi] w fun e w' => ∃ x : Int, e = .returned (.int .i64 x) ∧ lo ≤ x ∧ x ≤ hi ∧ Drawn w S n at_ w' := by
  have hN := Lib.hid (src_N w S n at_ h (hi - lo + 1) (by omega))
  clear h
  go_enter Try.func18, Try.ntmps18
  go_wp2_with fail
  refine Calls.mono hN.out ?_
  rintro _ w1 ⟨x, rfl, hx, _, hd⟩
  obtain ⟨x1, x2⟩ := hx (by omega)
  replace hd := Lib.hid hd
  go_wp2
  go_ret
  exact ⟨_, rfl, by omega, by omega, hd.out⟩
theorem src_Chance (w : World) (S n at_ : Nat) (h : SrcAt w S n at_) (m : Int) (h1 : 1 ≤ m) (h2 : m ≤ 100000) :
    Calls Try.prog 21 #[.pointer (some ⟨S, 0, none⟩), .int .i64 m] w fun e w' => ∃ b : Bool, e = .returned (.bool b) ∧ Drawn w S n at_ w' := by
  have hN := Lib.hid (src_N w S n at_ h m (by omega))
  clear h
  go_enter Try.func21, Try.ntmps21
  go_wp2_with fail
  refine Calls.mono hN.out ?_
  rintro _ w1 ⟨x, rfl, hx, _, hd⟩
  obtain ⟨x1, x2⟩ := hx (by omega)
  obtain ⟨b, hb⟩ : ∃ b, (x == m - 1) = b := ⟨_, rfl⟩
  replace hd := Lib.hid hd
  go_wp2
  go_ret
  exact ⟨_, rfl, hd.out⟩
set_option maxHeartbeats 2000000 in
theorem src_Raw (w : World) (S n at_ : Nat) (h : SrcAt w S n at_) :
    Calls Try.prog 31 #[.pointer (some ⟨S, 0, none⟩)] w fun e w' => ∃ x : Int, e = .returned (.int .i64 x) ∧ -9223372036854775808 ≤ x ∧ x ≤ 9223372036854775807 ∧ Drawn w S n at_ w' := by
  obtain ⟨⟨a, cap, hS, hl⟩, hle, hn⟩ := h
  have s0 : w.cell? ⟨S, 0, none⟩ = some (.slice a n cap) := by simp only [World.cell?, hS]; rfl
  have s1 : w.cell? ⟨S, 1, none⟩ = some (.int .i64 at_) := by simp only [World.cell?, hS]; rfl
  have hlt : S < w.heap.size := (Array.getElem?_eq_some_iff.1 hS).1
  have hfz : w.frozen? ⟨S, 1, none⟩ = false := by simp only [World.frozen?, hS]; rfl
  have hsame := Lib.hid (setCell_same (w := w) (S := S) (i := 1) (v := .int .i64 at_) hS rfl)
  have hS2 := Lib.hid (setCell_heap (i := 1) (v := .int .i64 ((at_ : Int) + 1)) hS)
  clear hS
  by_cases q1 : at_ < n
  · obtain ⟨b, off, rfl, hne, hc⟩ := hl.resolve_left (by omega)
    obtain ⟨x, x1, x2, hx⟩ := hc at_ q1
    have hb := World.block_lt_of_cell? w ⟨b, off + at_, none⟩ hx
    simp only at hb
    have b1 : decide ((n : Int) ≤ (at_ : Int)) = false := by simp; omega
    have b1' : decide (n ≤ at_) = false := by simp; omega
    have V0 : (w.setCell ⟨S, 1, none⟩ (.int .i64 ((at_ : Int) + 1))).cell? ⟨S, 0, none⟩ = some (.slice (some ⟨b, off, none⟩) n cap) := by simp only [World.cell?, hS2.out]; rfl
    have V1 : (w.setCell ⟨S, 1, none⟩ (.int .i64 ((at_ : Int) + 1))).cell? ⟨S, 1, none⟩ = some (.int .i64 ((at_ : Int) + 1)) := by simp only [World.cell?, hS2.out]; rfl
    have V2 : (w.setCell ⟨S, 1, none⟩ (.int .i64 ((at_ : Int) + 1))).cell? ⟨b, off + at_, none⟩ = some (.int .i64 x) := by
      simp only [World.cell?, setCell_heap_ne hne]; simpa only [World.cell?] using hx
    have i1 : ((at_ : Int) + 1 - 1) = (at_ : Int) := by omega
    clear hc hl hsame
    go_enter Try.func31, Try.ntmps31
    go_wp2
    (refine wp_region_ext (by kernel_rfl) (by kernel_rfl) ?_; (repeat (go_big_quiet_step ((fail)))); refine wpQuiet_nil ?_; intro _ hwq; obtain ⟨dq, hwq⟩ := hwq; subst hwq)
    go_wp2
    (refine wp_region_ext (by kernel_rfl) (by kernel_rfl) ?_; (repeat (go_big_quiet_step ((fail)))); refine wpQuiet_nil ?_; intro _ hwq; obtain ⟨dq, hwq⟩ := hwq; subst hwq)
    go_wp2
    go_ret
    simp only [World.ext_ext]
    exact ⟨_, rfl, x1, x2, drawn_one q1⟩
  · have z1 : decide ((n : Int) ≤ (at_ : Int)) = true := by simp; omega
    have z2 : decide (n ≤ at_) = true := by simp; omega
    clear hl
    go_enter Try.func31, Try.ntmps31
    go_wp2
    (refine wp_region_ext (by kernel_rfl) (by kernel_rfl) ?_; (repeat (go_big_quiet_step ((fail)))); refine wpQuiet_nil ?_; intro _ hwq; obtain ⟨dq, hwq⟩ := hwq; subst hwq)
    go_wp2
    go_ret
    exact ⟨0, rfl, by omega, by omega, drawn_none hle hsame.out⟩
theorem Drawn.src {w w' : World} {S n at_ at2 : Nat} (h : SrcAt w S n at_) (hd : Drawn w S n at2 w') : ∃ at', SrcAt w' S n at' := by
  obtain ⟨at', d, h1, h2, rfl⟩ := hd
  obtain ⟨⟨a, cap, hS, hl⟩, hle, hn⟩ := h
  refine ⟨at', ⟨a, cap, heap_some_ext (setCell_heap (i := 1) (v := .int .i64 at') hS) (Ext.ext (Ext.refl _) d), ?_⟩, h2, hn⟩
  rcases hl with hl | ⟨b, off, ha, hne, hc⟩
  · exact .inl hl
  · refine .inr ⟨b, off, ha, hne, fun i hi => ?_⟩
    obtain ⟨x, x1, x2, hx⟩ := hc i hi
    refine ⟨x, x1, x2, (Ext.ext (Ext.refl _) d).cell_some ?_⟩
    simp only [World.cell?, setCell_heap_ne hne]; simpa only [World.cell?] using hx
theorem SrcAt.ext {w w' : World} {S n at_ : Nat} (h : SrcAt w S n at_) (he : Ext w w') : SrcAt w' S n at_ := by
  obtain ⟨⟨a, cap, hS, hl⟩, hle, hn⟩ := h
  refine ⟨⟨a, cap, heap_some_ext hS he, ?_⟩, hle, hn⟩
  rcases hl with hl | ⟨b, off, ha, hne, hc⟩
  · exact .inl hl
  · exact .inr ⟨b, off, ha, hne, fun i hi => let ⟨x, x1, x2, hx⟩ := hc i hi; ⟨x, x1, x2, he.cell_some hx⟩⟩
set_option maxHeartbeats 1000000 in
theorem src_New (w : World) (a : Option Addr) (n cap : Nat) (hc : n ≤ cap) (hm : cap ≤ 9223372036854775807) (hl : n = 0 ∨ ∃ b off, a = some ⟨b, off, none⟩ ∧ ∀ i, i < n → ∃ x : Int, -9223372036854775808 ≤ x ∧ x ≤ 9223372036854775807 ∧ w.cell? ⟨b, off + i, none⟩ = some (.int .i64 x)) :
    Calls Try.prog 17 #[.slice a n cap] w fun e w' => ∃ S n', e = .returned (.pointer (some ⟨S, 0, none⟩)) ∧ Ext w w' ∧ w.heap.size ≤ S ∧ SrcAt w' S n' 0 := by
  by_cases hn : n ≤ 4000
  · have h1 : decide ((4000 : Int) < (n : Int)) = false := by simp; omega
    replace hl := Lib.hid hl
    go_enter Try.func17, Try.ntmps17
    go_wp2
    go_ret
    refine ⟨w.heap.size, n, rfl, by (repeat (first | exact Ext.refl _ | assumption | refine Ext.alloc ?_ _ | refine Ext.ext ?_ _ | refine Ext.drew ?_)), Nat.le_refl _, ⟨a, cap, heap_alloc_new _ _, ?_⟩, Nat.zero_le _, hn⟩
    rcases hl.out with h | ⟨b, off, rfl, h⟩
    · exact .inl h
    · by_cases h0 : n = 0
      · exact .inl h0
      · refine .inr ⟨b, off, rfl, ?_, fun i hi => let ⟨x, x1, x2, hx⟩ := h i hi; ⟨x, x1, x2, (Ext.alloc (Ext.refl _) _).cell_some hx⟩⟩
        obtain ⟨x, _, _, hx⟩ := h 0 (by omega)
        have := World.block_lt_of_cell? w ⟨b, off + 0, none⟩ hx
        simp only at this
        omega
  · have h1 : decide ((4000 : Int) < (n : Int)) = true := by simp; omega
    obtain ⟨b, off, rfl, h⟩ := hl.resolve_left (by omega)
    replace h := Lib.hid h
    go_enter Try.func17, Try.ntmps17
    go_wp2
    go_ret
    refine ⟨w.heap.size, 4000, rfl, by (repeat (first | exact Ext.refl _ | assumption | refine Ext.alloc ?_ _ | refine Ext.ext ?_ _ | refine Ext.drew ?_)), Nat.le_refl _, ⟨some ⟨b, off, none⟩, cap, heap_alloc_new _ _, ?_⟩, Nat.zero_le _, by omega⟩
    refine .inr ⟨b, off, rfl, ?_, fun i hi => let ⟨x, x1, x2, hx⟩ := h.out i (by omega); ⟨x, x1, x2, (Ext.alloc (Ext.refl _) _).cell_some hx⟩⟩
    obtain ⟨x, _, _, hx⟩ := h.out 0 (by omega)
    have := World.block_lt_of_cell? w ⟨b, off + 0, none⟩ hx
    simp only at this
    omega
end Go.Proofs.Ytendgmnbnnkpnaa.G
namespace Go
open Go.RowKit
theorem setCell_twice (w : World) (a : Addr) (v v' : Value) (hs : a.spot = none) : (w.setCell a v).setCell a v' = w.setCell a v' := by
  obtain ⟨b, i, sp⟩ := a
  simp only at hs
  subst hs
  unfold World.setCell
  congr 1
  apply Array.ext_getElem?
  intro k
  simp only [Array.getElem?_modify]
  by_cases hk : b = k
  · subst hk
    rcases w.heap[b]? with _ | o
    · simp
    · rcases o with ⟨cs, T, fr⟩ | _ | _ | _ | _ | _ <;> simp
  · simp [hk]
theorem cells_at2 {w : World} {b : Nat} {cur : Array Value} {t : TypeId} {fr : Nat × Nat} {l : List Value} (h : w.heap[b]? = some (.cells cur t fr)) (hl : cur.toList = l) : ∀ j u, l[j]? = some u → w.cell? ((⟨b, 0, none⟩ : Addr).add j) = some u := by
  intro j u hu
  subst hl
  rw [Addr.add_lit, Nat.zero_add]
  simp only [World.cell?, h]
  simpa using hu
theorem heap_grown2 {W w2 : World} {row : Option Nat} {b : Nat} {O : Obj} (hg : W.grownBy w2 row) (h : W.heap[b]? = some O) (hne : ∀ k, row = some k → k ≠ b) : w2.heap[b]? = some O := by
  rw [hg.block _ (Array.getElem?_eq_some_iff.1 h).1 (fun h => hne _ h.symm rfl)]
  exact h
theorem own_other {X : World} {base : Nat} {e e' : TypeId} {size n b : Nat} {v : Value} {xs : List Value} {cur : Array Value} {fr : Nat × Nat} (h : X.ownsRow base e size v n xs) (hb : X.heap[b]? = some (.cells cur e' fr)) (hne : e ≠ e') : ∀ k, v.ownBlock = some k → k ≠ b := by
  intro k hk
  rcases h.2 with ⟨rfl, _⟩ | ⟨g, cap, cu, rfl, _, hg, _⟩
  · cases hk
  · obtain rfl : g = k := by simpa [Value.ownBlock] using hk
    rintro rfl
    rw [hg] at hb
    simp only [Option.some.injEq, Obj.cells.injEq] at hb
    exact hne hb.2.1
theorem ints_cell {w : World} {B : Nat} {cs : Array Value} {T : TypeId} {fr : Nat × Nat} (zs : List Int) (h : w.heap[B]? = some (.cells cs T fr)) (hc : cs.toList = zs.map (Value.int .i64)) {i : Nat} (hi : i < zs.length) : ∃ z, w.cell? ⟨B, i, none⟩ = some (.int .i64 z) := by
  refine ⟨zs[i], ?_⟩
  simp only [World.cell?, h]
  rw [← Array.getElem?_toList, hc]
  simp [hi]
theorem heap_cell {w : World} {B : Nat} {cs : Array Value} {T : TypeId} {fr : Nat × Nat} (h : w.heap[B]? = some (.cells cs T fr)) (i : Nat) : w.cell? ⟨B, i, none⟩ = cs[i]? := by
  simp only [World.cell?, h]; rfl
theorem heap_thaw {w : World} {B : Nat} {cs : Array Value} {T : TypeId} (h : w.heap[B]? = some (.cells cs T (0, 0))) (i : Nat) : w.frozen? ⟨B, i, none⟩ = false := by
  simp only [World.frozen?, h]; simp
theorem Ext.put {X w : World} (h : Ext X w) {S i : Nat} (hs : X.heap.size ≤ S) (v : Value) : Ext X (w.setCell ⟨S, i, none⟩ v) := by
  obtain ⟨d, rfl⟩ := h
  refine Ext.of_below ⟨rfl, rfl, rfl, by simp, fun k hk => ?_⟩
  simp only [World.setCell, Array.getElem?_modify]
  rw [if_neg (by omega)]
  exact World.heap_ext X d k hk
end Go
namespace Go.Proofs.Ytendgmnbnnkpnaa.G
open Go.RowKit
theorem infoE : (Try.prog.info? 44).map (fun i => (i.zero, i.size, i.bytes)) = some (some (.agg #[.int .i64 0, .int .i64 0, .int .i64 0, .int .i64 0, .int .i64 0, .int .i64 0]), 6, 48) := by kernel_rfl
def evL (e : Ev) : List Value := [.int .i64 e.Kind, .int .i64 e.ID, .int .i64 e.X, .int .i64 e.Y, .int .i64 e.Time, .int .i64 e.Wheel]
theorem Drawn.low {w w' : World} {S n a : Nat} (h : Drawn w S n a w') : Drawn w S n 0 w' := by
  obtain ⟨at', d, h1, h2, rfl⟩ := h
  exact ⟨at', d, Nat.zero_le _, h2, rfl⟩
theorem Drawn.trans {w w1 w2 : World} {S n a b : Nat} (hs : S < w.heap.size) (h1 : Drawn w S n a w1) (h2 : Drawn w1 S n b w2) : Drawn w S n 0 w2 := by
  obtain ⟨a1, d1, _, _, rfl⟩ := h1
  obtain ⟨a2, d2, _, hn, rfl⟩ := h2
  refine ⟨a2, d1.add d2, Nat.zero_le _, hn, ?_⟩
  rw [World.setCell_ext _ _ _ _ _ (by simpa using hs), World.ext_ext, setCell_twice _ _ _ _ rfl]
theorem Drawn.ext {w w1 w2 : World} {S n a : Nat} (h1 : Drawn w S n a w1) (h2 : Ext w1 w2) : Drawn w S n a w2 := by
  obtain ⟨a1, d1, h, hn, rfl⟩ := h1
  obtain ⟨d2, rfl⟩ := h2
  exact ⟨a1, d1.add d2, h, hn, World.ext_ext _ _ _⟩
theorem Drawn.over {w w1 w2 : World} {S n a : Nat} (h1 : Drawn w S n a w1) (h2 : ∀ X, X.heap.size = w.heap.size → Ext X w1 → Ext X w2) : Drawn w S n a w2 := by
  obtain ⟨a1, d1, h, hn, rfl⟩ := h1
  obtain ⟨d2, rfl⟩ := h2 (w.setCell ⟨S, 1, none⟩ (.int .i64 a1)) (by simp) (Ext.ext (Ext.refl _) d1)
  exact ⟨a1, d2, h, hn, rfl⟩
theorem Drawn.size {w w1 : World} {S n a : Nat} (h : Drawn w S n a w1) : w.heap.size ≤ w1.heap.size := by
  obtain ⟨a1, d1, h, hn, rfl⟩ := h
  simp
theorem drawn_block {w w' : World} {S n at_ b : Nat} (hd : Drawn w S n at_ w') (h : b < w.heap.size) (hne : b ≠ S) : w'.heap[b]? = w.heap[b]? := by
  obtain ⟨at', d, h1, h2, rfl⟩ := hd
  rw [World.heap_ext _ _ _ (by simpa using h)]
  exact setCell_heap_ne hne
theorem SrcAt.lt {w : World} {S n at_ : Nat} (h : SrcAt w S n at_) : S < w.heap.size := by
  obtain ⟨⟨a, cap, hS, _⟩, _, _⟩ := h
  exact (Array.getElem?_eq_some_iff.1 hS).1
/-- since w: numbers have been drawn and the events l made -/
structure St (w : World) (S n : Nat) (wr : World) (v : Value) (l : List Ev) : Prop where
  d : Drawn w S n 0 wr
  row : wr.ownsRow w.heap.size 44 6 v l.length (l.flatMap evL)
  s : S < w.heap.size
theorem St.src {w wr : World} {S n a : Nat} {v : Value} {l : List Ev} (h : St w S n wr v l) (hs : SrcAt w S n a) : ∃ a', SrcAt wr S n a' := h.d.src hs
theorem row_drawn {wr w' : World} {S n a B size k : Nat} {T : TypeId} {v : Value} {xs : List Value} (h : wr.ownsRow B T size v k xs) (hd : Drawn wr S n a w') (hB : S < B) : w'.ownsRow B T size v k xs := by
  obtain ⟨a', d, _, _, rfl⟩ := hd
  refine ownsRow_ext (ownsRow_like h ((Like.refl (fun k => k = S) wr).setCell rfl _) ?_) (Ext.ext (Ext.refl _) d)
  intro b hb e
  obtain ⟨h1, _⟩ := h.lt b hb
  omega
theorem St.draw {w wr w' : World} {S n a : Nat} {v : Value} {l : List Ev} (h : St w S n wr v l) (hd : Drawn wr S n a w') : St w S n w' v l :=
  ⟨h.d.trans h.s hd, row_drawn h.row hd h.s, h.s⟩
theorem St.ext {w wr w' : World} {S n : Nat} {v : Value} {l : List Ev} (h : St w S n wr v l) (he : Ext wr w') : St w S n w' v l :=
  ⟨h.d.ext he, ownsRow_ext h.row he, h.s⟩
/-- an event lies in a block of its own -/
structure StE (w : World) (S n : Nat) (wr : World) (v : Value) (l : List Ev) (E : Nat) : Prop where
  st : St w S n wr v l
  e : ∃ e, wr.heap[E]? = some (.cells (evL e).toArray 44 (0, 0))
  ge : w.heap.size ≤ E
  ne : ∀ g, v.ownBlock = some g → g ≠ E
theorem StE.src {w wr : World} {S n a E : Nat} {v : Value} {l : List Ev} (h : StE w S n wr v l E) (hs : SrcAt w S n a) : ∃ a', SrcAt wr S n a' := h.st.d.src hs
theorem StE.draw {w wr w' : World} {S n a E : Nat} {v : Value} {l : List Ev} (h : StE w S n wr v l E) (hd : Drawn wr S n a w') : StE w S n w' v l E := by
  refine ⟨h.st.draw hd, ?_, h.ge, h.ne⟩
  obtain ⟨e, he⟩ := h.e
  refine ⟨e, ?_⟩
  rw [drawn_block hd (Array.getElem?_eq_some_iff.1 he).1 (by have := h.st.s; have := h.ge; omega)]
  exact he
theorem StE.ext {w wr w' : World} {S n E : Nat} {v : Value} {l : List Ev} (h : StE w S n wr v l E) (he : Ext wr w') : StE w S n w' v l E :=
  ⟨h.st.ext he, let ⟨e, x⟩ := h.e; ⟨e, heap_some_ext x he⟩, h.ge, h.ne⟩
theorem StE.put {w wr : World} {S n E : Nat} {v : Value} {l : List Ev} (h : StE w S n wr v l E) (i : Nat) (x : Int) (hi : i < 6) : StE w S n (wr.setCell ⟨E, i, none⟩ (.int .i64 x)) v l E := by
  refine ⟨⟨h.st.d.over (fun X hX hw => hw.put (by rw [hX]; exact h.ge) _), ownsRow_like h.st.row ((Like.refl (fun k => k = E) wr).setCell rfl _) (fun b hb => h.ne b hb), h.st.s⟩, ?_, h.ge, h.ne⟩
  obtain ⟨e, he⟩ := h.e
  match i, hi with
  | 0, _ => exact ⟨{ e with Kind := x }, setCell_heap he⟩
  | 1, _ => exact ⟨{ e with ID := x }, setCell_heap he⟩
  | 2, _ => exact ⟨{ e with X := x }, setCell_heap he⟩
  | 3, _ => exact ⟨{ e with Y := x }, setCell_heap he⟩
  | 4, _ => exact ⟨{ e with Time := x }, setCell_heap he⟩
  | 5, _ => exact ⟨{ e with Wheel := x }, setCell_heap he⟩
theorem StE.new {w wr : World} {S n : Nat} {v : Value} {l : List Ev} (h : St w S n wr v l) (e : Ev) : StE w S n (wr.alloc (.cells (evL e).toArray 44)) v l wr.heap.size :=
  ⟨h.ext (Ext.alloc (Ext.refl _) _), ⟨e, heap_alloc_new _ _⟩, h.d.size, fun g hg e => by have := (h.row.lt g hg).2; omega⟩
theorem St.app {w W w' : World} {S n : Nat} {v v' : Value} {l : List Ev} {e : Ev} (h : St w S n W v l) (ho : w'.ownsRow w.heap.size 44 6 v' (l.length + 1) (l.flatMap evL ++ evL e)) (hg : W.grownBy w' v.ownBlock) : St w S n w' v' (l ++ [e]) :=
  ⟨h.d.over (fun X hX hw => Ext.of_grown hw hg (fun k hk => by rw [hX]; exact (h.row.lt k hk).1)), by simpa using ho, h.s⟩
theorem EvAt.heap {w w' : World} {b o : Nat} {e : Ev} (h : EvAt w b o e) (hb : w'.heap[b]? = w.heap[b]?) : EvAt w' b o e := by
  have hc : ∀ i, w'.cell? ⟨b, i, none⟩ = w.cell? ⟨b, i, none⟩ := fun i => World.cell?_of_block (w := w) hb
  exact ⟨(hc _).trans h.c0, (hc _).trans h.c1, (hc _).trans h.c2, (hc _).trans h.c3, (hc _).trans h.c4, (hc _).trans h.c5⟩
theorem EvsAt.heap {w w' : World} {b o : Nat} {l : List Ev} (h : EvsAt w b o l) (hb : b < w.heap.size → w'.heap[b]? = w.heap[b]?) : EvsAt w' b o l :=
  fun i e hi => (h i e hi).heap (hb (h i e hi).lt)
theorem ev_flat_get (l : List Ev) : ∀ (i : Nat) (e : Ev), l[i]? = some e → ∀ j, j < 6 → (l.flatMap evL)[i * 6 + j]? = (evL e)[j]? := by
  induction l with
  | nil => intro i e h; simp at h
  | cons x l ih =>
    intro i e h j hj
    rw [List.flatMap_cons]
    cases i with
    | zero =>
      simp only [List.getElem?_cons_zero, Option.some.injEq] at h
      subst h
      rw [Nat.zero_mul, Nat.zero_add, List.getElem?_append_left (by simpa [evL] using hj)]
    | succ i =>
      simp only [List.getElem?_cons_succ] at h
      rw [List.getElem?_append_right (by simp [evL]; omega), show (i + 1) * 6 + j - (evL x).length = i * 6 + j by simp [evL]; omega]
      exact ih i e h j hj
theorem evs_of_row {w : World} {B : Nat} {v : Value} {l : List Ev} (h : w.ownsRow B 44 6 v l.length (l.flatMap evL)) : ∃ a c, v = .slice a l.length c ∧ (l = [] ∨ ∃ b, a = some ⟨b, 0, none⟩ ∧ EvsAt w b 0 l ∧ B ≤ b) := by
  obtain ⟨hlen, h⟩ := h
  rcases h with ⟨rfl, h0⟩ | ⟨g, cap, cur, rfl, hB, hg, hn, hm, hs, ht⟩
  · obtain rfl : l = [] := List.length_eq_zero_iff.1 h0
    exact ⟨none, 0, rfl, .inl rfl⟩
  · refine ⟨_, _, rfl, .inr ⟨g, rfl, ?_, hB⟩⟩
    intro i e hi
    have hil : i < l.length := (List.getElem?_eq_some_iff.1 hi).1
    have key : ∀ j, j < 6 → w.cell? ⟨g, 0 + i * 6 + j, none⟩ = (evL e)[j]? := by
      intro j hj
      rw [← ev_flat_get l i e hi j hj, ← ht, List.getElem?_take_of_lt (by omega), heap_cell hg, Nat.zero_add, Array.getElem?_toList]
    exact ⟨key 0 (by omega), key 1 (by omega), key 2 (by omega), key 3 (by omega), key 4 (by omega), key 5 (by omega)⟩
theorem drawn_ext {X w w' : World} {S n at_ : Nat} (h : Ext X w) (hs : X.heap.size ≤ S) (hd : Drawn w S n at_ w') : Ext X w' := by
  obtain ⟨at', d, h1, h2, rfl⟩ := hd
  exact (h.put hs _).ext d
end Go.Proofs.Ytendgmnbnnkpnaa.G
