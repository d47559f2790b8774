/- The package of draws: a world since which numbers have been drawn; ArenaEvent. -/
import Derived.Test.YtcnmljpabmgieaaDr0
import Derived.WalkKit
import Derived.WalkSpells
import Derived.WalkLawsBesides
import Derived.Deep.QuietTactic
import Derived.BigQuiet
import Derived.BigRegion
import Derived.Lib.Hide
import Derived.Deep.RegionWith
set_option linter.unusedSimpArgs false
set_option linter.unusedVariables false
namespace Go
open Go.RowKit
theorem sc_twice (w : World) (a : Addr) (v v' : Value) (hs : a.spot = none) : (w.setCell a v).setCell a v' = w.setCell a v' := by
  obtain ⟨b, i, sp⟩ := a
  simp only at hs
  subst hs
  unfold World.setCell
  congr 1
  apply Array.ext_getElem?
  intro k
  simp only [Array.getElem?_modify]
  by_cases hk : b = k
  · subst hk
    rcases w.heap[b]? with _ | o
    · simp
    · rcases o with ⟨cs, T, fr⟩ | _ | _ | _ | _ | _ <;> simp
  · simp [hk]
end Go
namespace Go.Proofs.Ytcnmljpabmgieaa.G
open Go.RowKit
theorem Drawn.refl {w : World} {S n a : Nat} (h : SrcAt w S n a) : Drawn w S n 0 w := by
  obtain ⟨⟨x, cap, hS, _⟩, hle, _⟩ := h
  obtain ⟨d, hd⟩ := Ext.refl w
  refine ⟨a, d, Nat.zero_le _, hle, ?_⟩
  rw [sc_same hS rfl]
  exact hd
theorem Drawn.low {w w' : World} {S n a : Nat} (h : Drawn w S n a w') : Drawn w S n 0 w' := by
  obtain ⟨at', d, h1, h2, rfl⟩ := h
  exact ⟨at', d, Nat.zero_le _, h2, rfl⟩
theorem Drawn.trans {w w1 w2 : World} {S n a b : Nat} (hs : S < w.heap.size) (h1 : Drawn w S n a w1) (h2 : Drawn w1 S n b w2) : Drawn w S n 0 w2 := by
  obtain ⟨a1, d1, _, _, rfl⟩ := h1
  obtain ⟨a2, d2, _, hn, rfl⟩ := h2
  refine ⟨a2, d1.add d2, Nat.zero_le _, hn, ?_⟩
  rw [World.setCell_ext _ _ _ _ _ (by simpa using hs), World.ext_ext, sc_twice _ _ _ _ rfl]
theorem Drawn.ext {w w1 w2 : World} {S n a : Nat} (h1 : Drawn w S n a w1) (h2 : Ext w1 w2) : Drawn w S n a w2 := by
  obtain ⟨a1, d1, h, hn, rfl⟩ := h1
  obtain ⟨d2, rfl⟩ := h2
  exact ⟨a1, d1.add d2, h, hn, World.ext_ext _ _ _⟩
theorem Drawn.size {w w1 : World} {S n a : Nat} (h : Drawn w S n a w1) : w.heap.size ≤ w1.heap.size := by
  obtain ⟨a1, d1, h, hn, rfl⟩ := h
  simp
theorem drawn_block {w w' : World} {S n at_ b : Nat} (hd : Drawn w S n at_ w') (h : b < w.heap.size) (hne : b ≠ S) : w'.heap[b]? = w.heap[b]? := by
  obtain ⟨at', d, h1, h2, rfl⟩ := hd
  rw [World.heap_ext _ _ _ (by simpa using h)]
  exact sc_heap_ne hne
theorem drawn_heap {w w' : World} {S n at_ b : Nat} {cs : Array Value} {T : TypeId} {fr : Nat × Nat} (hd : Drawn w S n at_ w') (h : w.heap[b]? = some (.cells cs T fr)) (hne : b ≠ S) : w'.heap[b]? = some (.cells cs T fr) := by
  rw [drawn_block hd (Array.getElem?_eq_some_iff.1 h).1 hne]
  exact h
/-- a world in which a reader lies, whatever it has read -/
def SrcOk (w : World) (S n : Nat) : Prop := ∃ a, SrcAt w S n a
theorem SrcOk.drawn {w w' : World} {S n a : Nat} (h : SrcOk w S n) (hd : Drawn w S n a w') : SrcOk w' S n := let ⟨_, h⟩ := h; hd.src h
theorem SrcOk.ext {w w' : World} {S n : Nat} (h : SrcOk w S n) (he : Ext w w') : SrcOk w' S n := let ⟨a, h⟩ := h; ⟨a, h.ext he⟩
theorem SrcOk.lt {w : World} {S n : Nat} (h : SrcOk w S n) : S < w.heap.size := let ⟨_, h⟩ := h; h.lt
theorem SrcOk.type {w : World} {S n : Nat} (h : SrcOk w S n) : ∃ cs, w.heap[S]? = some (.cells cs 57) := let ⟨_, ⟨_, _, h, _⟩, _, _⟩ := h; ⟨_, h⟩
theorem Drawn.refl2 {w : World} {S n : Nat} (h : SrcOk w S n) : Drawn w S n 0 w := let ⟨_, h⟩ := h; .refl h
theorem Drawn.of_ext {w X : World} {S n a : Nat} (h : a ≤ n) (he : Ext (w.setCell ⟨S, 1, none⟩ (.int .i64 a)) X) : Drawn w S n 0 X := by
  obtain ⟨d, rfl⟩ := he
  exact ⟨a, d, Nat.zero_le _, h, rfl⟩
theorem range_ok (w : World) (S n : Nat) (h : SrcOk w S n) (lo hi : Int) (h1 : -100000 ≤ lo) (h2 : lo ≤ hi) (h3 : hi ≤ 100000) :
    Calls Try.prog 32 #[.pointer (some ⟨S, 0, none⟩), .int .i64 lo, .int .i64 hi] w fun e w' => ∃ x : Int, e = .returned (.int .i64 x) ∧ lo ≤ x ∧ x ≤ hi ∧ Drawn w S n 0 w' := by
  obtain ⟨a, h⟩ := h
  refine (src_Range w S n a h lo hi h1 h2 h3).mono ?_
  rintro _ _ ⟨x, rfl, h1, h2, h3⟩
  exact ⟨x, rfl, h1, h2, h3.low⟩
theorem n_ok (w : World) (S n : Nat) (h : SrcOk w S n) (m : Int) (hm : 1 ≤ m ∧ m ≤ 9223372036854775807) :
    Calls Try.prog 18 #[.pointer (some ⟨S, 0, none⟩), .int .i64 m] w fun e w' => ∃ x : Int, e = .returned (.int .i64 x) ∧ 0 ≤ x ∧ x < m ∧ Drawn w S n 0 w' := by
  obtain ⟨a, h⟩ := h
  obtain ⟨m1, m2⟩ := hm
  refine (src_N w S n a h m ⟨by omega, m2⟩).mono ?_
  rintro _ _ ⟨x, rfl, h1, _, h3⟩
  exact ⟨x, rfl, (h1 m1).1, (h1 m1).2, h3.low⟩
theorem more_ok (w : World) (S n : Nat) (h : SrcOk w S n) :
    Calls Try.prog 19 #[.pointer (some ⟨S, 0, none⟩)] w fun e w' => ∃ b : Bool, e = .returned (.bool b) ∧ Ext w w' := let ⟨a, h⟩ := h; src_More w S n a h
/-- since the world w (the law's start): a reader at the new block S, of numbers that lie in w -/
structure SrcIn (w : World) (S m : Nat) (wr : World) : Prop where
  e : Ext w wr
  s0 : w.heap.size ≤ S
  row : ∃ (a : Option Addr) (cap at_ : Nat), wr.heap[S]? = some (.cells #[.slice a m cap, .int .i64 at_] 57) ∧ at_ ≤ m ∧ (m = 0 ∨ ∃ b off, a = some ⟨b, off, none⟩ ∧ ∀ i, i < m → ∃ x : Int, -9223372036854775808 ≤ x ∧ x ≤ 9223372036854775807 ∧ w.cell? ⟨b, off + i, none⟩ = some (.int .i64 x))
  n : m ≤ 4000
theorem SrcIn.ok {w wr : World} {S m : Nat} (h : SrcIn w S m wr) : SrcOk wr S m := by
  obtain ⟨he, hs, ⟨a, cap, at_, hS, hle, hl⟩, hn⟩ := h
  refine ⟨at_, ⟨a, cap, hS, ?_⟩, hle, hn⟩
  by_cases h0 : m = 0
  · exact .inl h0
  obtain ⟨b, off, ha, hc⟩ := hl.resolve_left h0
  refine .inr ⟨b, off, ha, ?_, fun i hi => let ⟨x, x1, x2, hx⟩ := hc i hi; ⟨x, x1, x2, he.cell_some hx⟩⟩
  obtain ⟨x, _, _, hx⟩ := hc 0 (by omega)
  have := World.block_lt_of_cell? w ⟨b, off + 0, none⟩ hx
  simp only at this
  omega
theorem SrcIn.ext {w wr w' : World} {S m : Nat} (h : SrcIn w S m wr) (he : Ext wr w') : SrcIn w S m w' := by
  obtain ⟨h0, hs, ⟨a, cap, at_, hS, hle, hl⟩, hn⟩ := h
  exact ⟨h0.trans he, hs, ⟨a, cap, at_, heap_some_ext hS he, hle, hl⟩, hn⟩
theorem SrcIn.drawn {w wr w' : World} {S m b : Nat} (h : SrcIn w S m wr) (hd : Drawn wr S m b w') : SrcIn w S m w' := by
  obtain ⟨h0, hs, ⟨a, cap, at_, hS, hle, hl⟩, hn⟩ := h
  obtain ⟨at', d, _, h2, rfl⟩ := hd
  refine ⟨?_, hs, ⟨a, cap, at', heap_some_ext (sc_heap (i := 1) (v := .int .i64 at') hS) (Ext.ext (Ext.refl _) d), h2, hl⟩, hn⟩
  have hg : wr.grownBy (wr.setCell ⟨S, 1, none⟩ (.int .i64 at')) (some S) := ⟨rfl, rfl, rfl, by simp, fun k hk hne => sc_heap_ne (fun (e : k = S) => hne (by subst e; rfl))⟩
  exact Ext.ext (Ext.of_grown h0 hg (fun k e => by cases e; exact hs)) d
theorem SrcIn.grown {w wr w' : World} {S m b : Nat} (h : SrcIn w S m wr) (hg : wr.grownBy w' (some b)) (hb : w.heap.size ≤ b) (hne : b ≠ S) : SrcIn w S m w' := by
  obtain ⟨h0, hs, ⟨a, cap, at_, hS, hle, hl⟩, hn⟩ := h
  refine ⟨Ext.of_grown h0 hg (fun k e => by cases e; exact hb), hs, ⟨a, cap, at_, ?_, hle, hl⟩, hn⟩
  rw [hg.block S (Array.getElem?_eq_some_iff.1 hS).1 (fun e => hne (by simpa using e.symm))]
  exact hS
theorem new_in (w : World) (a : Option Addr) (n cap : Nat) (hc : n ≤ cap) (hm : cap ≤ 9223372036854775807) (hl : n = 0 ∨ ∃ b off, a = some ⟨b, off, none⟩ ∧ ∀ i, i < n → ∃ x : Int, -9223372036854775808 ≤ x ∧ x ≤ 9223372036854775807 ∧ w.cell? ⟨b, off + i, none⟩ = some (.int .i64 x)) :
    Calls Try.prog 17 #[.slice a n cap] w fun e w' => ∃ S n', e = .returned (.pointer (some ⟨S, 0, none⟩)) ∧ SrcIn w S n' w' := by
  by_cases hn : n ≤ 4000
  · have h1 : decide ((4000 : Int) < (n : Int)) = false := by simp; omega
    replace hl := Lib.hid hl
    go_enter Try.func17, Try.ntmps17
    go_wp2
    go_ret
    exact ⟨w.heap.size, n, rfl, by (repeat (first | exact Ext.refl _ | assumption | refine Ext.alloc ?_ _ | refine Ext.ext ?_ _ | refine Ext.drew ?_)), Nat.le_refl _, ⟨a, cap, 0, heap_alloc_new _ _, Nat.zero_le _, hl.out⟩, hn⟩
  · have h1 : decide ((4000 : Int) < (n : Int)) = true := by simp; omega
    obtain ⟨b, off, rfl, h⟩ := hl.resolve_left (by omega)
    replace h := Lib.hid h
    go_enter Try.func17, Try.ntmps17
    go_wp2
    go_ret
    exact ⟨w.heap.size, 4000, rfl, by (repeat (first | exact Ext.refl _ | assumption | refine Ext.alloc ?_ _ | refine Ext.ext ?_ _ | refine Ext.drew ?_)), Nat.le_refl _, ⟨some ⟨b, off, none⟩, cap, 0, heap_alloc_new _ _, Nat.zero_le _, .inr ⟨b, off, rfl, fun i hi => h.out i (by omega)⟩⟩, by omega⟩
theorem new_ok (w : World) (a : Option Addr) (n cap : Nat) (hc : n ≤ cap) (hm : cap ≤ 9223372036854775807) (hl : n = 0 ∨ ∃ b off, a = some ⟨b, off, none⟩ ∧ ∀ i, i < n → ∃ x : Int, -9223372036854775808 ≤ x ∧ x ≤ 9223372036854775807 ∧ w.cell? ⟨b, off + i, none⟩ = some (.int .i64 x)) :
    Calls Try.prog 17 #[.slice a n cap] w fun e w' => ∃ S n', e = .returned (.pointer (some ⟨S, 0, none⟩)) ∧ Ext w w' ∧ w.heap.size ≤ S ∧ SrcOk w' S n' := by
  refine (src_New w a n cap hc hm hl).mono ?_
  rintro _ _ ⟨S, n', rfl, h1, h2, h3⟩
  exact ⟨S, n', rfl, h1, h2, ⟨0, h3⟩⟩
set_option maxHeartbeats 2000000 in
theorem arenaEvent_ok (w : World) (S n : Nat) (h : SrcOk w S n) :
    Calls Try.prog 20 #[.pointer (some ⟨S, 0, none⟩)] w fun e w' => ∃ K M : Int, e = .returned (.agg #[.int .i64 K, .int .i64 M]) ∧ 0 ≤ K ∧ K ≤ 7 ∧ -1 ≤ M ∧ M ≤ 6 ∧ Drawn w S n 0 w' := by
  have hs := h.lt
  have hsl := Lib.hid h.lt
  have h1 := Lib.hid fun w' (hd : Drawn w S n 0 w') => h.drawn hd
  have hd0 := Lib.hid (Drawn.refl2 h)
  have hr := Lib.hid (range_ok · S n)
  clear h
  go_enter Try.func20, Try.ntmps20
  go_wp2_with fail
  refine Calls.mono (hr.out _ ?_ 0 7 (by omega) (by omega) (by omega)) ?_
  · exact h1.out _ (hd0.out.ext (by (repeat (first | exact Ext.refl _ | assumption | refine Ext.alloc ?_ _ | refine Ext.ext ?_ _ | refine Ext.drew ?_))))
  rintro _ w1 ⟨K, rfl, k1, k2, a1, e1, _, q1, rfl⟩
  go_wp2_with fail
  refine Calls.mono (hr.out _ ?_ (-1) 6 (by omega) (by omega) (by omega)) ?_
  · exact h1.out _ (Drawn.of_ext q1 (by (repeat (first | exact Ext.refl _ | assumption | refine Ext.alloc ?_ _ | refine Ext.ext ?_ _ | refine Ext.drew ?_))))
  rintro _ w2 ⟨M, rfl, m1, m2, a2, e2, _, q2, rfl⟩
  go_wp2
  (refine bodyPost_ret (v := ?_) (by simp [results, Try.results20, go_sem]; rfl) rfl ?_)
  refine ⟨K, M, rfl, k1, k2, m1, m2, Drawn.of_ext q2 ?_⟩
  (repeat (first | exact Ext.refl _ | assumption | refine Ext.alloc ?_ _ | refine Ext.ext ?_ _ | refine Ext.drew ?_))
  rw [sc_twice _ _ _ _ rfl]
  exact Ext.refl _
end Go.Proofs.Ytcnmljpabmgieaa.G
