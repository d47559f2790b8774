/- The reference's arena: New. -/
import Derived.Test.YtcnmljpabmgieaaAr27
import Derived.WalkKit
import Derived.WalkSpells
import Derived.WalkLawsBesides
import Derived.Deep.QuietTactic
import Derived.BigQuiet
import Derived.BigRegion
import Derived.Lib.Hide
import Derived.Deep.RegionWith
set_option linter.unusedSimpArgs false
set_option linter.unusedVariables false
namespace Go.Proofs.Ytcnmljpabmgieaa.R
open Go.RowKit
theorem rnew_bad (n : Int) (w : World) (h : n < 0 ∨ 24 < n) :
    Calls Try.prog 11 #[.int .i64 n] w fun x w' => x = .returned (.tuple #[.agg #[.int .i64 0, .slice none 0 0, .bool false, .int .i64 0, .slice none 0 0, .bool false, .int .i64 0, .bool false], .int .i64 1]) ∧ Ext w w' := by
  have hb : decide (n < 0) = true ∨ (decide (n < 0) = false ∧ decide (24 < n) = true) := by
    by_cases h0 : n < 0
    · exact .inl (decide_eq_true h0)
    · exact .inr ⟨decide_eq_false h0, decide_eq_true (by omega)⟩
  clear h
  rcases hb with h | ⟨h, h2⟩
  all_goals
    go_enter Try.func11, Try.ntmps11
    go_wp2
    (refine bodyPost_ret (v := ?_) (by simp [results, Try.results11, go_sem]; rfl) rfl ?_)
    refine ⟨rfl, ?_⟩
    (repeat (first | exact Ext.refl _ | assumption | refine Ext.alloc ?_ _ | refine Ext.ext ?_ _ | refine Ext.drew ?_))
set_option maxHeartbeats 4000000 in
theorem rNew_ok (n : Nat) (w : World) (h : n ≤ 24) :
    Calls Try.prog 11 #[.int .i64 n] w fun x w' => ∃ la lc, x = .returned (.tuple #[.agg #[.int .i64 ((newA n).1).Members, .slice la ((newA n).1).Left.length lc, .bool ((newA n).1).Open, .int .i64 ((newA n).1).Eager, .slice none ((newA n).1).Holds.length 0, .bool ((newA n).1).Swept, .int .i64 ((newA n).1).Winner, .bool ((newA n).1).Done], .int .i64 0]) ∧ Ext w w' ∧ OI 0 w' la lc (newA n).1.Left := by
  have hnew : newA n = (⟨n, (List.range n).map fun i => (Int.ofNat i), true, -1, [], false, -1, false⟩, 0) := by
    unfold newA
    rw [if_neg (by omega)]
    simp
  rw [hnew]
  clear hnew
  go_enter Try.func11, Try.ntmps11
  go_wp2
  go_loopg [5] n (fun g v5 wr => ∃ (k : Nat) (la : Option Addr) (lc : Nat) (D : Grow), v5 = .int .i64 k ∧ k ≤ n ∧ g = n - k ∧ wr = ((w.alloc (.cells #[.int .i64 0, .slice none 0 0, .bool false, .int .i64 0, .slice none 0 0, .bool false, .int .i64 0, .bool false] 24)).alloc (.cells #[.int .i64 n, .slice la k lc, .bool true, .int .i64 (-1), .slice none 0 0, .bool false, .int .i64 (-1), .bool false] 24)).ext D ∧ Hid (wr.ownsRow (w.heap.size + 2) 3 1 (.slice la k lc) k (((List.range k).map fun i => (Int.ofNat i)).map (Value.int .i64))))
  case atStart => exact ⟨0, none, 0, World.grow0 _, rfl, Nat.zero_le _, rfl, (World.ext_none _).symm, Lib.hid (World.ownsRow_nil _ _ _ _)⟩
  case round =>
    obtain ⟨k, la, lc, D, rfl, hk, hg, hwr, hr⟩ := hrel
    subst hwr
    replace hg := Lib.hid hg
    by_cases hlt : k < n
    · have htk : Hid (((List.range (k + 1)).map fun i => (Int.ofNat i)).map (Value.int .i64) = ((List.range k).map fun i => (Int.ofNat i)).map (Value.int .i64) ++ [.int .i64 (k : Int)]) := Lib.hid (by rw [List.range_succ]; simp)
      have hz : Hid (((w.alloc (.cells #[.int .i64 0, .slice none 0 0, .bool false, .int .i64 0, .slice none 0 0, .bool false, .int .i64 0, .bool false] 24)).alloc (.cells #[.int .i64 n, .slice la k lc, .bool true, .int .i64 (-1), .slice none 0 0, .bool false, .int .i64 (-1), .bool false] 24)).heap[w.heap.size + 1]? = some (.cells #[.int .i64 n, .slice la k lc, .bool true, .int .i64 (-1), .slice none 0 0, .bool false, .int .i64 (-1), .bool false] 24)) := Lib.hid (heap_new _ _ (by simp))
      go_wp2_with (at_builtin; refine wpList_append_row _ _ _ 22 3 _ 1 8 infoI Try.underlying22 rfl (by decide) (w.heap.size + 2) _ k _ (ownsRow_ext hr.out (by (repeat (first | exact Ext.refl _ | assumption | refine Ext.alloc ?_ _ | refine Ext.ext ?_ _ | refine Ext.drew ?_)))) ⟨_, 0, none⟩ 1 1 [.int .i64 (k : Int)] (by decide) rfl (cells_at2 (heap_new _ _ (by simp)) rfl) (by simp [Value.oneCell']) (by unfold maxLen; omega) (by omega) (by simp <;> omega) rfl rfl rfl rfl ?_; intro g2 c2 w2 hown hg2; (have he2 : Ext ((w.alloc (.cells #[.int .i64 0, .slice none 0 0, .bool false, .int .i64 0, .slice none 0 0, .bool false, .int .i64 0, .bool false] 24)).alloc (.cells #[.int .i64 n, .slice la k lc, .bool true, .int .i64 (-1), .slice none 0 0, .bool false, .int .i64 (-1), .bool false] 24)) w2 := Ext.of_grown (by (repeat (first | exact Ext.refl _ | assumption | refine Ext.alloc ?_ _ | refine Ext.ext ?_ _ | refine Ext.drew ?_))) hg2 (fun q hq => by have := (hr.out.lt q hq).1; simpa using this)); obtain ⟨D2, hD2⟩ := he2; subst hD2; rw [← htk.out] at hown; (have hrow := Lib.hid fun z => ownsRow_like hown (Y := ((w.alloc (.cells #[.int .i64 0, .slice none 0 0, .bool false, .int .i64 0, .slice none 0 0, .bool false, .int .i64 0, .bool false] 24)).alloc (.cells z 24)).ext D2) (S := fun q => q = w.heap.size + 1) (by (repeat (first | exact Like.refl _ _ | refine Like.ext ?_ _ | refine Like.alloc ?_ _ | refine Like.swap ?_ (by simp <;> omega) _ _))) (own_other hown (heap_ext1 hz.out) (by decide))); clear hown hg2 hr hz)
      go_roundg (n - (k + 1))
      case measure => have := hg.out; omega
      case rel => exact ⟨k + 1, _, _, D2, by go_num, by omega, rfl, rfl, Lib.hid (hrow.out _)⟩
    · obtain rfl : k = n := by omega
      have hrow := Lib.hid fun z => own_low (ownsRow_like hr.out (Y := ((w.alloc (.cells z 24)).alloc (.cells #[.int .i64 k, .slice la k lc, .bool true, .int .i64 (-1), .slice none 0 0, .bool false, .int .i64 (-1), .bool false] 24)).ext D) (S := fun q => q = w.heap.size) (by (repeat (first | exact Like.refl _ _ | refine Like.ext ?_ _ | refine Like.alloc ?_ _ | refine Like.swap ?_ (by simp <;> omega) _ _))) (own_other hr.out (heap_ext1 (heap_alloc1 (heap_new _ _ rfl))) (by decide))) (Nat.zero_le _)
      clear hr
      go_wp2
      (refine bodyPost_ret (v := ?_) (by simp [results, Try.results11, go_sem]; rfl) rfl ?_)
      refine ⟨la, lc, by simp, ?_, ?_⟩
      · (repeat (first | exact Ext.refl _ | assumption | refine Ext.alloc ?_ _ | refine Ext.ext ?_ _ | refine Ext.drew ?_))
      · unfold OI; simpa using hrow.out _
end Go.Proofs.Ytcnmljpabmgieaa.R
