/- slices.IndexFunc, slices.DeleteFunc at 'x == m'; without. -/
import Derived.Test.YtcnmljpabmgieaaAr2
import Derived.Lib.SliceRun
import Derived.WalkKit
import Derived.WalkSpells
import Derived.WalkLawsBesides
import Derived.Deep.QuietTactic
import Derived.BigQuiet
import Derived.BigRegion
import Derived.Lib.Hide
import Derived.Deep.RegionWith
set_option linter.unusedSimpArgs false
set_option linter.unusedVariables false
namespace Go
open Go.RowKit
theorem grown_put (w : World) (b i : Nat) (v : Value) : w.grownBy (w.setCell ⟨b, i, none⟩ v) (some b) :=
  ⟨rfl, rfl, rfl, by simp, fun k hk hne => by
    unfold World.setCell
    simp only [Array.getElem?_modify]
    rw [if_neg (fun e : b = k => hne (by rw [e]))]⟩
theorem grown_refl (w : World) (row : Option Nat) : w.grownBy w row := ⟨rfl, rfl, rfl, Nat.le_refl _, fun _ _ _ => rfl⟩
theorem grown_trans {a b c : World} {row : Option Nat} (h : a.grownBy b row) (k : b.grownBy c row) : a.grownBy c row :=
  ⟨k.os.trans h.os, k.tape.trans h.tape, k.output.trans h.output, Nat.le_trans h.size k.size, fun i hi hne => (k.block i (Nat.lt_of_lt_of_le hi h.size) hne).trans (h.block i hi hne)⟩
theorem setCell_heap {w : World} {S i : Nat} {cs : Array Value} {T : TypeId} {fr : Nat × Nat} {v : Value} (h : w.heap[S]? = some (.cells cs T fr)) : (w.setCell ⟨S, i, none⟩ v).heap[S]? = some (.cells (cs.setIfInBounds i v) T fr) := by
  unfold World.setCell
  simp [Array.getElem?_modify, h]
theorem setCells_facts (b : Nat) (T : TypeId) (fr : Nat × Nat) : ∀ (vs : List Value) (w : World) (o : Nat) (cur : Array Value), w.heap[b]? = some (.cells cur T fr) → w.grownBy (w.setCells b o vs) (some b) ∧ ∃ cur', (w.setCells b o vs).heap[b]? = some (.cells cur' T fr) ∧ cur'.size = cur.size ∧ ∀ k, k < o → cur'[k]? = cur[k]?
  | [], w, o, cur, h => ⟨grown_refl w _, cur, h, rfl, fun _ _ => rfl⟩
  | v :: r, w, o, cur, h => by
    obtain ⟨h1, cur', h2, h3, h4⟩ := setCells_facts b T fr r (w.setCell ⟨b, o, none⟩ v) (o + 1) (cur.setIfInBounds o v) (setCell_heap h)
    refine ⟨grown_trans (grown_put w b o v) h1, cur', h2, by simpa using h3, fun k hk => ?_⟩
    rw [h4 k (by omega), Array.getElem?_setIfInBounds]
    rw [if_neg (by omega)]
end Go
namespace Go.Proofs.Ytcnmljpabmgieaa.R
open Go.RowKit
theorem without_snoc (l : List Int) (m : Int) (j : Nat) (x : Int) (hx : l[j]? = some x) : without (l.take (j + 1)) m = without (l.take j) m ++ (if x == m then [] else [x]) := by
  rw [List.take_add_one, hx]
  unfold without
  rw [List.filter_append]
  congr 1
  cases h : (x == m) <;> simp [h]
theorem without_le (l : List Int) (m : Int) (j : Nat) : (without (l.take j) m).length ≤ j := by
  have := List.length_filter_le (fun x => !(x == m)) (l.take j)
  unfold without
  simp at this ⊢
  omega
set_option maxHeartbeats 1000000 in
theorem IndexFunc_ok (l : List Int) (m : Int) (B : Nat) (a : Option Addr) (cap : Nat) (w : World) (hl : l.length ≤ 1000000) (h : RepI w a l) (hb : w.cell? ⟨B, 0, none⟩ = some (.int .i64 m)) :
    Calls Try.prog 61 #[.slice a l.length cap, .func (.func 49) #[] #[.pointer (some ⟨B, 0, none⟩)]] w fun e w' => ∃ k : Int, e = .returned (.int .i64 k) ∧ w' = w ∧ ((k = -1 ∧ without l m = l) ∨ ∃ j : Nat, k = j ∧ j < l.length ∧ without (l.take (j + 1)) m = l.take j) := by
  obtain ⟨n, hn⟩ : ∃ n, n = l.length := ⟨_, rfl⟩
  rw [← hn] at hl ⊢
  replace hn := Lib.hid hn
  replace h := Lib.hid h
  go_enter Try.func61, Try.ntmps61
  go_wp2
  go_loopg [8] n (fun g v8 wr => ∃ k : Nat, v8 = .int .i64 k ∧ k ≤ n ∧ g = n - k ∧ Hid (wr = w) ∧ Hid (without (l.take k) m = l.take k))
  case atStart => exact ⟨0, rfl, Nat.zero_le _, rfl, Lib.hid rfl, Lib.hid (by simp [without])⟩
  case round =>
    obtain ⟨k, rfl, hk, hg, hw, ht⟩ := hrel
    obtain rfl := hw.out
    replace hg := Lib.hid hg
    by_cases hlt : k < n
    · obtain ⟨x, hx⟩ : ∃ x, l[k]? = some x := ⟨_, List.getElem?_eq_getElem (hn.out ▸ hlt)⟩
      have htk := Lib.hid (without_snoc l m k x hx)
      have htk2 : Hid (l.take (k + 1) = l.take k ++ [x]) := Lib.hid (by rw [List.take_add_one, hx]; rfl)
      obtain ⟨b, off, rfl, hi⟩ : ∃ b off, a = some ⟨b, off, none⟩ ∧ IntsAt wr b off l := by
        rcases h.out with h | h
        · rw [h] at hx; cases hx
        · exact h
      have c0 := hi k x hx
      clear hi hx hw
      rcases hq : (x == m) with _ | _
      · go_wp2
        go_roundg (n - (k + 1))
        case measure => have := hg.out; omega
        case rel => exact ⟨k + 1, by go_num, by omega, rfl, Lib.hid rfl, Lib.hid (by rw [htk.out, htk2.out, hq, ht.out]; rfl)⟩
      · go_wp2
        go_ret
        refine ⟨k, rfl, rfl, .inr ⟨k, rfl, hlt, ?_⟩⟩
        rw [htk.out, hq, ht.out]
        simp
    · obtain rfl : k = n := by omega
      go_wp2
      go_ret
      refine ⟨-1, rfl, rfl, .inl ⟨rfl, ?_⟩⟩
      have := ht.out
      rwa [hn.out, List.take_length] at this
/-- the row while numbers are left out: l.take j has been looked at -/
structure Mid (wr : World) (g c : Nat) (l : List Int) (m : Int) (j : Nat) : Prop where
  h : ∃ cur, wr.heap[g]? = some (.cells cur 3) ∧ cur.size = c ∧ cur.toList.take (without (l.take j) m).length = (without (l.take j) m).map (Value.int .i64) ∧ ∀ t x, j ≤ t → l[t]? = some x → cur[t]? = some (.int .i64 x)
theorem Mid.cell {wr : World} {g c : Nat} {l : List Int} {m : Int} {j : Nat} (h : Mid wr g c l m j) {x : Int} (hx : l[j]? = some x) : wr.cell? ⟨g, j, none⟩ = some (.int .i64 x) := by
  obtain ⟨cur, h1, _, _, h4⟩ := h.h
  rw [heap_cell h1]
  exact h4 j x (Nat.le_refl _) hx
theorem Mid.skip {wr : World} {g c : Nat} {l : List Int} {m : Int} {j : Nat} (h : Mid wr g c l m j) {x : Int} (hx : l[j]? = some x) (hm : (x == m) = true) : Mid wr g c l m (j + 1) := by
  obtain ⟨cur, h1, h2, h3, h4⟩ := h.h
  have hw : without (l.take (j + 1)) m = without (l.take j) m := by rw [without_snoc l m j x hx, hm]; simp
  exact ⟨cur, h1, h2, by rw [hw]; exact h3, fun t y ht hy => h4 t y (by omega) hy⟩
theorem Mid.keep {wr : World} {g c : Nat} {l : List Int} {m : Int} {j : Nat} (h : Mid wr g c l m j) {x : Int} (hx : l[j]? = some x) (hm : (x == m) = false) (hc : l.length ≤ c) : Mid (wr.setCell ⟨g, (without (l.take j) m).length, none⟩ (.int .i64 x)) g c l m (j + 1) := by
  obtain ⟨cur, h1, h2, h3, h4⟩ := h.h
  have hw : without (l.take (j + 1)) m = without (l.take j) m ++ [x] := by rw [without_snoc l m j x hx, hm]; rfl
  have hle := without_le l m j
  have hjl : j < l.length := (List.getElem?_eq_some_iff.1 hx).1
  refine ⟨_, setCell_heap h1, by simpa using h2, ?_, fun t y ht hy => ?_⟩
  · rw [hw, List.length_append, List.length_singleton, List.take_add_one, Array.toList_setIfInBounds, List.take_set_of_le (Nat.le_refl _), h3, List.getElem?_set_self (by simp; omega)]
    simp
  · rw [Array.getElem?_setIfInBounds, if_neg (by omega)]
    exact h4 t y (by omega) hy
theorem Mid.start {wr : World} {B g n c j : Nat} {l : List Int} {m : Int} (h : wr.ownsRow B 3 1 (.slice (some ⟨g, 0, none⟩) n c) n (l.map (Value.int .i64))) (hw : without (l.take (j + 1)) m = l.take j) (hn : n = l.length) (hj : j < n) : Mid wr g c l m (j + 1) ∧ n ≤ c := by
  obtain ⟨hlen, h⟩ := h
  rcases h with ⟨hv, h0⟩ | ⟨g', cap, cur, hv, hB, hg, hn', hm', hs, ht⟩
  · cases hv
  · simp only [Value.slice.injEq, Option.some.injEq, Addr.mk.injEq, and_true, true_and] at hv
    obtain ⟨rfl, rfl⟩ := hv
    refine ⟨⟨cur, hg, by simpa using hs, ?_, fun t x htj hx => ?_⟩, hn'⟩
    · rw [hw]
      have hl : (l.take j).length = j := by simp; omega
      rw [hl, List.map_take, ← ht, List.take_take]
      congr 1
      omega
    · have htl : t < l.length := (List.getElem?_eq_some_iff.1 hx).1
      rw [← Array.getElem?_toList]
      have : (cur.toList.take (n * 1))[t]? = (l.map (Value.int .i64))[t]? := by rw [ht]
      rw [List.getElem?_take_of_lt (by omega)] at this
      rw [this]
      simp [hx]
end Go.Proofs.Ytcnmljpabmgieaa.R
