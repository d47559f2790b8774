/- Lists of numbers in memory; slices.Index, slices.Contains, rising. -/
import Derived.Test.YtcnmljpabmgieaaAr0
import Derived.Test.YtcnmljpabmgieaaUA
import Derived.Test.YtcnmljpabmgieaaChecked
import Derived.Deep.LoopGhost
import Derived.WalkKit
import Derived.WalkSpells
import Derived.WalkLawsBesides
import Derived.Deep.QuietTactic
import Derived.BigQuiet
import Derived.BigRegion
import Derived.Lib.Hide
import Derived.Deep.RegionWith
set_option linter.unusedSimpArgs false
set_option linter.unusedVariables false
namespace Go
open Go.RowKit
theorem gen_at5 {W : World} {p : World → Prop} (h : ∀ W', W' = W → p W') : p W := h W rfl
theorem heap_cell {w : World} {B : Nat} {cs : Array Value} {T : TypeId} {fr : Nat × Nat} (h : w.heap[B]? = some (.cells cs T fr)) (i : Nat) : w.cell? ⟨B, i, none⟩ = cs[i]? := by
  simp only [World.cell?, h]; rfl
theorem heap_thaw {w : World} {B : Nat} {cs : Array Value} {T : TypeId} (h : w.heap[B]? = some (.cells cs T (0, 0))) (i : Nat) : w.frozen? ⟨B, i, none⟩ = false := by
  simp only [World.frozen?, h]; simp
theorem own_low {w : World} {B B' : Nat} {e : TypeId} {size : Nat} {v : Value} {n : Nat} {xs : List Value} (h : w.ownsRow B e size v n xs) (hb : B' ≤ B) : w.ownsRow B' e size v n xs := by
  refine ⟨h.1, ?_⟩
  rcases h.2 with h2 | ⟨g, cap, cur, hv, hb2, r⟩
  · exact .inl h2
  · exact .inr ⟨g, cap, cur, hv, Nat.le_trans hb hb2, r⟩
theorem own_other {X : World} {base : Nat} {e e' : TypeId} {size n b : Nat} {v : Value} {xs : List Value} {cur : Array Value} {fr : Nat × Nat} (h : X.ownsRow base e size v n xs) (hb : X.heap[b]? = some (.cells cur e' fr)) (hne : e ≠ e') : ∀ k, v.ownBlock = some k → k ≠ b := by
  intro k hk
  rcases h.2 with ⟨rfl, _⟩ | ⟨g, cap, cu, rfl, _, hg, _⟩
  · cases hk
  · obtain rfl : g = k := by simpa [Value.ownBlock] using hk
    rintro rfl
    rw [hg] at hb
    simp only [Option.some.injEq, Obj.cells.injEq] at hb
    exact hne hb.2.1
end Go
namespace Go.Proofs.Ytcnmljpabmgieaa.R
open Go.RowKit
def IntsAt (w : World) (b off : Nat) (l : List Int) : Prop := ∀ i x, l[i]? = some x → w.cell? ⟨b, off + i, none⟩ = some (.int .i64 x)
def RepI (w : World) (a : Option Addr) (l : List Int) : Prop := l = [] ∨ ∃ b off, a = some ⟨b, off, none⟩ ∧ IntsAt w b off l
theorem IntsAt.ext {w w' : World} {b off : Nat} {l : List Int} (h : IntsAt w b off l) (he : Ext w w') : IntsAt w' b off l := fun i x hi => he.cell_some (h i x hi)
theorem RepI.ext {w w' : World} {a : Option Addr} {l : List Int} (h : RepI w a l) (he : Ext w w') : RepI w' a l := h.imp id fun ⟨b, off, h1, h2⟩ => ⟨b, off, h1, h2.ext he⟩
/-- a list of the call's own -/
def OI (B : Nat) (w : World) (a : Option Addr) (c : Nat) (l : List Int) : Prop := w.ownsRow B 3 1 (.slice a l.length c) l.length (l.map (Value.int .i64))
theorem OI.ext {B : Nat} {w w' : World} {a : Option Addr} {c : Nat} {l : List Int} (h : OI B w a c l) (he : Ext w w') : OI B w' a c l := ownsRow_ext h he
theorem OI.nil (B : Nat) (w : World) : OI B w none 0 [] := World.ownsRow_nil _ _ _ _
theorem own_ge {B : Nat} {w : World} {a : Option Addr} {c : Nat} {l : List Int} (h : OI B w a c l) : ∀ k, (Value.slice a l.length c).ownBlock = some k → B ≤ k ∧ k < w.heap.size := fun k hk => World.ownsRow.lt h k hk
theorem OI.low {B : Nat} {w : World} {a : Option Addr} {c : Nat} {l : List Int} (h : OI B w a c l) : OI 0 w a c l := own_low h (Nat.zero_le _)
theorem row_ints {w : World} {B n c : Nat} {a : Option Addr} {l : List Int} (h : w.ownsRow B 3 1 (.slice a n c) n (l.map (Value.int .i64))) : RepI w a l := by
  obtain ⟨hlen, h⟩ := h
  simp at hlen
  rcases h with ⟨_, h0⟩ | ⟨g, cap, cur, hv, hB, hg, hn, hm, hs, ht⟩
  · exact .inl (List.length_eq_zero_iff.1 (by omega))
  · simp only [Value.slice.injEq] at hv
    obtain ⟨rfl, _, _⟩ := hv
    refine .inr ⟨g, 0, rfl, fun i x hi => ?_⟩
    have hil : i < l.length := (List.getElem?_eq_some_iff.1 hi).1
    rw [heap_cell hg, Nat.zero_add, ← Array.getElem?_toList]
    have : (cur.toList.take (n * 1))[i]? = (l.map (Value.int .i64))[i]? := by rw [ht]
    rw [List.getElem?_take_of_lt (by omega)] at this
    rw [this]
    simp [hi]
theorem OI.rep {B : Nat} {w : World} {a : Option Addr} {c : Nat} {l : List Int} (h : OI B w a c l) : RepI w a l := row_ints h
/-- the place of a number, from a place on -/
theorem has_take (l : List Int) (m : Int) (k : Nat) (hk : k < l.length) (h : (l.take k).any (fun x => m == x) = false) (x : Int) (hx : l[k]? = some x) : (l.take (k + 1)).any (fun x => m == x) = (m == x) := by
  rw [List.take_add_one, List.any_append, h, hx]
  simp
set_option maxHeartbeats 1000000 in
theorem Index_ok (l : List Int) (m : Int) (a : Option Addr) (cap : Nat) (w : World) (hl : l.length ≤ 1000000) (h : RepI w a l) :
    Calls Try.prog 45 #[.slice a l.length cap, .int .i64 m] w fun e w' => ∃ k : Int, e = .returned (.int .i64 k) ∧ decide (0 ≤ k) = has l m ∧ w' = w := by
  obtain ⟨n, hn⟩ : ∃ n, n = l.length := ⟨_, rfl⟩
  rw [← hn] at hl ⊢
  replace hn := Lib.hid hn
  replace h := Lib.hid h
  go_enter Try.func45, Try.ntmps45
  go_wp2
  go_loopg [8] n (fun g v8 wr => ∃ k : Nat, v8 = .int .i64 k ∧ k ≤ n ∧ g = n - k ∧ Hid (wr = w) ∧ Hid ((l.take k).any (fun x => m == x) = false))
  case atStart => exact ⟨0, rfl, Nat.zero_le _, rfl, Lib.hid rfl, Lib.hid (by simp)⟩
  case round =>
    obtain ⟨k, rfl, hk, hg, hw, ht⟩ := hrel
    obtain rfl := hw.out
    replace hg := Lib.hid hg
    by_cases hlt : k < n
    · obtain ⟨x, hx⟩ : ∃ x, l[k]? = some x := ⟨_, List.getElem?_eq_getElem (hn.out ▸ hlt)⟩
      have htk := Lib.hid (has_take l m k (hn.out ▸ hlt) ht.out x hx)
      obtain ⟨b, off, rfl, hi⟩ : ∃ b off, a = some ⟨b, off, none⟩ ∧ IntsAt wr b off l := by
        rcases h.out with h | h
        · rw [h] at hx; cases hx
        · exact h
      have c0 := hi k x hx
      clear hi hx hw
      rcases hq : (m == x) with _ | _
      · go_wp2
        go_roundg (n - (k + 1))
        case measure => have := hg.out; omega
        case rel => exact ⟨k + 1, by go_num, by omega, rfl, Lib.hid rfl, Lib.hid (by rw [htk.out, hq])⟩
      · go_wp2
        go_ret
        refine ⟨k, rfl, ?_, rfl⟩
        rw [decide_eq_true (by omega)]
        have : has (l.take (k + 1)) m = true := by rw [has, htk.out, hq]
        unfold has at this ⊢
        rw [List.any_eq_true] at this
        obtain ⟨y, hy, hm⟩ := this
        exact (List.any_eq_true.2 ⟨y, List.mem_of_mem_take hy, hm⟩).symm
    · obtain rfl : k = n := by omega
      go_wp2
      go_ret
      refine ⟨-1, rfl, ?_, rfl⟩
      have := ht.out
      rw [hn.out, List.take_length] at this
      rw [has, this]
      rfl
theorem has_ok (l : List Int) (m : Int) (a : Option Addr) (cap : Nat) (w : World) (hl : l.length ≤ 1000000) (h : RepI w a l) :
    Calls Try.prog 29 #[.slice a l.length cap, .int .i64 m] w fun e w' => e = .returned (.bool (has l m)) ∧ w' = w := by
  have hi := Lib.hid (Index_ok l m a cap w hl h)
  clear h
  go_enter Try.func29, Try.ntmps29
  go_wp2_with fail
  refine Calls.mono hi.out ?_
  rintro _ _ ⟨k, rfl, hk, rfl⟩
  replace hk := Lib.hid hk
  go_wp2
  go_ret
  exact ⟨by rw [← hk.out]; rfl, rfl⟩
theorem rising_step (l : List Int) : ∀ (k : Nat) (x y : Int), l[k]? = some x → l[k + 1]? = some y → rising (l.take (k + 2)) = (rising (l.take (k + 1)) && decide (x < y)) := by
  induction l with
  | nil => intro k x y h; simp at h
  | cons z l ih =>
    intro k x y hx hy
    cases k with
    | zero =>
      cases l with
      | nil => simp at hy
      | cons z2 l =>
        simp at hx hy
        subst hx hy
        simp [rising]
    | succ k =>
      simp only [List.getElem?_cons_succ] at hx hy
      have := ih k x y hx hy
      cases l with
      | nil => simp at hx
      | cons z2 l =>
        simp only [List.take_succ_cons, rising] at this ⊢
        rw [this, Bool.and_assoc]
theorem rising_take : ∀ (l : List Int) (k : Nat), rising l = true → rising (l.take k) = true
  | [], _, _ => by simp [rising]
  | [_], k, _ => by cases k <;> simp [rising]
  | x :: y :: l, 0, _ => by simp [rising]
  | x :: y :: l, 1, _ => by simp [rising]
  | x :: y :: l, k + 2, h => by
    simp only [rising, Bool.and_eq_true] at h
    have := rising_take (y :: l) (k + 1) h.2
    simp only [List.take_succ_cons, rising, Bool.and_eq_true] at this ⊢
    exact ⟨h.1, this⟩
set_option maxHeartbeats 1000000 in
theorem rising_ok (l : List Int) (a : Option Addr) (cap : Nat) (w : World) (hl : l.length ≤ 1000000) (h : RepI w a l) :
    Calls Try.prog 26 #[.slice a l.length cap] w fun e w' => e = .returned (.bool (rising l)) ∧ Ext w w' := by
  obtain ⟨n, hn⟩ : ∃ n, n = l.length := ⟨_, rfl⟩
  rw [← hn] at hl ⊢
  replace hn := Lib.hid hn
  replace h := Lib.hid h
  have h1 : Hid (rising (l.take 1) = true) := Lib.hid (by cases l <;> simp [rising])
  go_enter Try.func26, Try.ntmps26
  go_wp2
  go_loopg [3] n (fun g v3 wr => ∃ j : Nat, v3 = .int .i64 ((j : Int) + 1) ∧ (j < n ∨ j = 0) ∧ g = n - j ∧ Hid (Ext w wr) ∧ Hid (rising (l.take (j + 1)) = true))
  case atStart => exact ⟨0, rfl, .inr rfl, rfl, Lib.hid (Ext.refl _), h1⟩
  case round =>
    obtain ⟨j, rfl, hj, hg, he, ht⟩ := hrel
    replace hg := Lib.hid hg
    replace hj := Lib.hid hj
    by_cases hlt : j + 1 < n
    · obtain ⟨x, hx⟩ : ∃ x, l[j]? = some x := ⟨_, List.getElem?_eq_getElem (by have := hn.out; omega)⟩
      obtain ⟨y, hy⟩ : ∃ y, l[j + 1]? = some y := ⟨_, List.getElem?_eq_getElem (by have := hn.out; omega)⟩
      have htk := Lib.hid (rising_step l j x y hx hy)
      obtain ⟨b, off, rfl, hi⟩ : ∃ b off, a = some ⟨b, off, none⟩ ∧ IntsAt wr b off l := by
        rcases h.out.ext he.out with h | h
        · rw [h] at hx; cases hx
        · exact h
      have c0 := hi j x hx
      have c1 := hi (j + 1) y hy
      have hbl := World.block_lt_of_cell? wr ⟨b, off + j, none⟩ c0
      simp only at hbl
      clear hi hx hy
      have d1 : decide ((j : Int) + 1 < (n : Int)) = true := decide_eq_true (by omega)
      rcases hq : decide (x < y) with _ | _
      · have hq2 : decide (y ≤ x) = true := by simp at hq ⊢; omega
        go_wp2
        (refine wp_region_ext (by kernel_rfl) (by kernel_rfl) ?_; (repeat (go_big_quiet_step ((fail)))); refine wpQuiet_nil ?_; intro _ hwq; obtain ⟨dq, hwq⟩ := hwq; subst hwq)
        go_wp2
        go_ret
        refine ⟨?_, ?_⟩
        · have : rising l = false := by
            cases hr : rising l
            · rfl
            · have := rising_take l (j + 2) hr
              rw [htk.out, ht.out, hq] at this
              cases this
          rw [this]
          rfl
        · obtain ⟨d, he'⟩ := he.out
          subst he'
          (repeat (first | exact Ext.refl _ | assumption | refine Ext.alloc ?_ _ | refine Ext.ext ?_ _ | refine Ext.drew ?_))
      · have hq2 : decide (y ≤ x) = false := by simp at hq ⊢; omega
        go_wp2
        (refine wp_region_ext (by kernel_rfl) (by kernel_rfl) ?_; (repeat (go_big_quiet_step ((fail)))); refine wpQuiet_nil ?_; intro _ hwq; obtain ⟨dq, hwq⟩ := hwq; subst hwq)
        go_wp2
        go_roundg (n - (j + 1))
        case measure => have := hg.out; omega
        case rel => exact ⟨j + 1, by go_num, .inl (by omega), rfl, Lib.hid (he.out.ext _), Lib.hid (by rw [htk.out, ht.out, hq]; rfl)⟩
    · have d1 : decide ((j : Int) + 1 < (n : Int)) = false := decide_eq_false (by omega)
      go_wp2
      go_ret
      refine ⟨?_, he.out⟩
      have := ht.out
      rw [List.take_of_length_le (by have := hn.out; omega)] at this
      rw [this]
      rfl
end Go.Proofs.Ytcnmljpabmgieaa.R
