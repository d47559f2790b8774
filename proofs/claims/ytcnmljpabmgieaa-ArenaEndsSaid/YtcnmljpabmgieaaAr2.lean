/- slices.Clone of numbers; decide. -/
import Derived.Test.YtcnmljpabmgieaaAr1
import Derived.WalkKit
import Derived.WalkSpells
import Derived.WalkLawsBesides
import Derived.Deep.QuietTactic
import Derived.BigQuiet
import Derived.BigRegion
import Derived.Lib.Hide
import Derived.Deep.RegionWith
set_option linter.unusedSimpArgs false
set_option linter.unusedVariables false
namespace Go
open Go.RowKit
theorem cells_at2 {w : World} {b : Nat} {cur : Array Value} {t : TypeId} {fr : Nat × Nat} {l : List Value} (h : w.heap[b]? = some (.cells cur t fr)) (hl : cur.toList = l) : ∀ j u, l[j]? = some u → w.cell? ((⟨b, 0, none⟩ : Addr).add j) = some u := by
  intro j u hu
  subst hl
  rw [Addr.add_lit, Nat.zero_add]
  simp only [World.cell?, h]
  simpa using hu
theorem heap_grown2 {W w2 : World} {row : Option Nat} {b : Nat} {O : Obj} (hg : W.grownBy w2 row) (h : W.heap[b]? = some O) (hne : ∀ k, row = some k → k ≠ b) : w2.heap[b]? = some O := by
  rw [hg.block _ (Array.getElem?_eq_some_iff.1 h).1 (fun h => hne _ h.symm rfl)]
  exact h
end Go
namespace Go.Proofs.Ytcnmljpabmgieaa.R
open Go.RowKit
theorem infoI : (Try.prog.info? 3).map (fun i => (i.zero, i.size, i.bytes)) = some (some (.int .i64 0), 1, 8) := by kernel_rfl
theorem infoV : (Try.prog.info? 45).map (fun i => (i.zero, i.size, i.bytes)) = some (some (.agg #[.int .i64 0, .bool false]), 2, 16) := by kernel_rfl
theorem ints_one (l : List Int) : ∀ u, u ∈ l.map (Value.int .i64) → u.oneCell' = true := by
  intro u hu
  obtain ⟨x, _, rfl⟩ := List.mem_map.1 hu
  rfl
set_option maxHeartbeats 400000 in
theorem clone_ok (l : List Int) (a : Option Addr) (cap : Nat) (w : World) (hl : l.length ≤ 1000000) (h : RepI w a l) :
    Calls Try.prog 34 #[.slice a l.length cap] w fun e w' => ∃ a' c', e = .returned (.slice a' l.length c') ∧ Ext w w' ∧ w'.ownsRow w.heap.size 3 1 (.slice a' l.length c') l.length (l.map (Value.int .i64)) := by
  have hnil := fun w' => Lib.run_eql_slice_nil (P := Try.prog) w' 22 3 a l.length cap 0 0 Try.underlying22
  by_cases h0 : l = []
  · subst h0
    clear h hl
    simp only [List.length_nil, List.map_nil] at hnil ⊢
    cases a with
    | none =>
      go_enter Try.func34, Try.ntmps34
      go_wp2
      go_ret
      refine ⟨none, 0, rfl, ?_, World.ownsRow_nil _ _ _ _⟩
      (repeat (first | exact Ext.refl _ | assumption | refine Ext.alloc ?_ _ | refine Ext.ext ?_ _ | refine Ext.drew ?_))
    | some p =>
      go_enter Try.func34, Try.ntmps34
      go_wp2
      go_ret
      refine ⟨_, _, rfl, ?_, ?_⟩
      · (repeat (first | exact Ext.refl _ | assumption | refine Ext.alloc ?_ _ | refine Ext.ext ?_ _ | refine Ext.drew ?_))
      · exact World.ownsRow_made w #[] 0 (Nat.le_refl _) (by decide) rfl
  · obtain ⟨b, off, rfl, hi⟩ := h.resolve_left h0
    obtain ⟨x, hx⟩ : ∃ x, l[0]? = some x := ⟨_, List.getElem?_eq_getElem (List.length_pos_iff.2 h0)⟩
    have hb := World.block_lt_of_cell? w ⟨b, off + 0, none⟩ (hi 0 x hx)
    simp only at hb
    have hat : Hid (∀ j u, (l.map (Value.int .i64))[j]? = some u → w.cell? ((⟨b, off, none⟩ : Addr).add j) = some u) := Lib.hid fun j u hu => by
      rw [List.getElem?_map] at hu
      rcases hj : l[j]? with _ | y
      · rw [hj] at hu; cases hu
      · rw [hj] at hu
        simp at hu
        subst hu
        rw [Addr.add_lit]
        exact hi j y hj
    have h1 := Lib.hid (ints_one l)
    have hcl : Hid ((l.map (Value.int .i64)).length = l.length * 1) := Lib.hid (by simp)
    clear hi hx h h0
    go_enter Try.func34, Try.ntmps34
    go_wp2_with (at_builtin; refine wpList_append_copy w _ _ 22 3 _ 1 8 infoI Try.underlying22 rfl (by decide) ⟨b, off, none⟩ l.length cap (l.map (Value.int .i64)) hcl.out hat.out hb h1.out (by unfold maxLen; omega) (by omega) rfl rfl rfl rfl ?_; intro g c w1 hown he)
    go_ret
    exact ⟨_, _, rfl, he, hown⟩
def vdL (v : Vd) : List Value := [.int .i64 v.Member, .bool v.Won]
set_option maxHeartbeats 4000000 in
theorem decide_ok (a : Arn) (m : Int) (la ha : Option Addr) (lc hc : Nat) (w : World) (hl : a.Left.length ≤ 1000000) (h : RepI w la a.Left) :
    Calls Try.prog 36 #[.agg #[.int .i64 (a).Members, .slice la (a).Left.length lc, .bool (a).Open, .int .i64 (a).Eager, .slice ha (a).Holds.length hc, .bool (a).Swept, .int .i64 (a).Winner, .bool (a).Done], .int .i64 m] w fun e w' => ∃ va vc, e = .returned (.tuple #[.agg #[.int .i64 ((decideA a m).1).Members, .slice none ((decideA a m).1).Left.length 0, .bool ((decideA a m).1).Open, .int .i64 ((decideA a m).1).Eager, .slice none ((decideA a m).1).Holds.length 0, .bool ((decideA a m).1).Swept, .int .i64 ((decideA a m).1).Winner, .bool ((decideA a m).1).Done], .slice va (decideA a m).2.length vc]) ∧ Ext w w' ∧
      w'.ownsRow w.heap.size 45 2 (.slice va (decideA a m).2.length vc) (decideA a m).2.length ((decideA a m).2.flatMap vdL) := by
  obtain ⟨n, hn⟩ : ∃ n, n = a.Left.length := ⟨_, rfl⟩
  rw [← hn] at hl ⊢
  replace hn := Lib.hid hn
  replace h := Lib.hid h
  go_enter Try.func36, Try.ntmps36
  go_wp2
  go_loopg [6, 12] n (fun g v6 v12 wr => ∃ (k : Nat) (va : Option Addr) (vc : Nat), v6 = .slice va k vc ∧ v12 = .int .i64 k ∧ k ≤ n ∧ g = n - k ∧ Hid (Ext ((w.alloc (.cells #[.int .i64 a.Members, .slice la n lc, .bool a.Open, .int .i64 a.Eager, .slice ha a.Holds.length hc, .bool a.Swept, .int .i64 a.Winner, .bool a.Done] 24)).alloc (.cells #[.int .i64 0, .slice none 0 0, .bool false, .int .i64 0, .slice none 0 0, .bool false, .int .i64 0, .bool false] 24)) wr) ∧ Hid (wr.ownsRow (w.heap.size + 2) 45 2 (.slice va k vc) k (((a.Left.take k).map fun x => (⟨x, x == m⟩ : Vd)).flatMap vdL)))
  case atStart => exact ⟨0, none, 0, rfl, rfl, Nat.zero_le _, rfl, Lib.hid (Ext.refl _), Lib.hid (by simpa using World.ownsRow_nil _ _ _ _)⟩
  case round =>
    obtain ⟨k, va, vc, rfl, rfl, hk, hg, he, hr⟩ := hrel
    replace hg := Lib.hid hg
    by_cases hlt : k < n
    · obtain ⟨x, hx⟩ : ∃ x, a.Left[k]? = some x := ⟨_, List.getElem?_eq_getElem (by have := hn.out; omega)⟩
      obtain ⟨b, off, rfl, hi⟩ : ∃ b off, la = some ⟨b, off, none⟩ ∧ IntsAt wr b off a.Left := by
        rcases h.out.ext (w' := wr) (Ext.trans (by (repeat (first | exact Ext.refl _ | assumption | refine Ext.alloc ?_ _ | refine Ext.ext ?_ _ | refine Ext.drew ?_))) he.out) with h | h
        · rw [h] at hx; cases hx
        · exact h
      have c0 := hi k x hx
      have hbl := World.block_lt_of_cell? wr ⟨b, off + k, none⟩ c0
      simp only at hbl
      have htk : Hid (((a.Left.take (k + 1)).map fun x => (⟨x, x == m⟩ : Vd)).flatMap vdL = ((a.Left.take k).map fun x => (⟨x, x == m⟩ : Vd)).flatMap vdL ++ vdL ⟨x, x == m⟩) := Lib.hid (by rw [List.take_add_one, hx]; simp)
      have hsz : Hid (w.heap.size + 2 ≤ wr.heap.size) := Lib.hid (by have := he.out.size; simpa using this)
      clear hi hx
      obtain ⟨q, hq⟩ : ∃ q, (x == m) = q := ⟨_, rfl⟩
      rw [hq] at htk
      go_wp2_with (at_builtin; refine wpList_append_row _ _ _ 30 45 _ 2 16 infoV Try.underlying30 rfl (by decide) (w.heap.size + 2) _ k _ (ownsRow_ext hr.out (by (repeat (first | exact Ext.refl _ | assumption | refine Ext.alloc ?_ _ | refine Ext.ext ?_ _ | refine Ext.drew ?_)))) ⟨wr.heap.size, 0, none⟩ 1 1 (vdL ⟨x, q⟩) (by decide) rfl (cells_at2 (heap_alloc_new _ _) rfl) (by simp [vdL, Value.oneCell']) (by unfold maxLen; omega) (by omega) (Nat.le_trans hsz.out (by simp)) rfl rfl rfl rfl ?_; intro g2 c2 w2 hown hg2; (have he2 := Lib.hid (Ext.of_grown (he.out.trans (by (repeat (first | exact Ext.refl _ | assumption | refine Ext.alloc ?_ _ | refine Ext.ext ?_ _ | refine Ext.drew ?_)))) hg2 (fun k hk => by have := (hr.out.lt k hk).1; simpa using this))); (have hr2 := Lib.hid (by rw [← htk.out] at hown; exact hown)); clear hown hg2 hr he)
      go_roundg (n - (k + 1))
      case measure => have := hg.out; omega
      case rel => exact ⟨k + 1, _, _, rfl, by go_num, by omega, rfl, he2, hr2⟩
    · obtain rfl : k = n := by omega
      obtain ⟨d, hd⟩ := he.out
      subst hd
      have hfin : Hid ((((w.alloc (.cells #[.int .i64 a.Members, .slice la k lc, .bool a.Open, .int .i64 a.Eager, .slice ha a.Holds.length hc, .bool a.Swept, .int .i64 a.Winner, .bool a.Done] 24)).alloc (.cells #[.int .i64 ((decideA a m).1).Members, .slice none ((decideA a m).1).Left.length 0, .bool ((decideA a m).1).Open, .int .i64 ((decideA a m).1).Eager, .slice none ((decideA a m).1).Holds.length 0, .bool ((decideA a m).1).Swept, .int .i64 ((decideA a m).1).Winner, .bool ((decideA a m).1).Done] 24)).ext d).ownsRow w.heap.size 45 2 (.slice va k vc) k ((decideA a m).2.flatMap vdL)) := by
        have h1 := hr.out
        rw [hn.out, List.take_length, ← hn.out] at h1
        refine Lib.hid (own_low (ownsRow_like h1 (S := fun k => k = w.heap.size + 1) ?_ (own_other (e' := 24) (cur := #[.int .i64 0, .slice none 0 0, .bool false, .int .i64 0, .slice none 0 0, .bool false, .int .i64 0, .bool false]) (fr := (0, 0)) h1 ?_ (by decide))) (by omega))
        · (repeat (first | exact Like.refl _ _ | refine Like.ext ?_ _ | refine Like.alloc ?_ _ | refine Like.swap ?_ (by simp <;> omega) _ _))
        · exact heap_ext1 (heap_new _ _ (by simp))
      have hvl : Hid ((decideA a m).2.length = k) := Lib.hid (by simp [decideA, hn.out])
      clear hr he h hg
      go_wp2
      (refine bodyPost_ret (v := ?_) (by simp [results, Try.results36, go_sem]; rfl) rfl ?_)
      refine ⟨va, vc, by rw [hvl.out]; rfl, ?_, by rw [hvl.out]; exact hfin.out⟩
      (repeat (first | exact Ext.refl _ | assumption | refine Ext.alloc ?_ _ | refine Ext.ext ?_ _ | refine Ext.drew ?_))
end Go.Proofs.Ytcnmljpabmgieaa.R
