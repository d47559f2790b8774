/- The law's step: the program's and the reference's agree. -/
import Derived.Test.YtcnmljpabmgieaaAr36
import Derived.WalkKit
import Derived.WalkSpells
import Derived.WalkLawsBesides
import Derived.Deep.QuietTactic
import Derived.BigQuiet
import Derived.BigRegion
import Derived.Lib.Hide
import Derived.Deep.RegionWith
set_option linter.unusedSimpArgs false
set_option linter.unusedVariables false
namespace Go.Proofs.Ytcnmljpabmgieaa.R
open Go.RowKit
theorem rows_lrep (B : Nat) : Rows (LRep B) := ⟨fun h he => h.ext he, fun h => h.rep, fun h => .inr h⟩
theorem LRep.turn {B b : Nat} {w w' : World} {z : Array Value} {la : Option Addr} {lc : Nat} {l : List Int} (h : LRep B w la lc l) (hl : Like (fun k => k = b) w w') (hs : w'.os = w.os ∧ w'.tape = w.tape ∧ w'.output = w.output) (hb : w.heap[b]? = some (.cells z 24)) (hB : B ≤ b) : LRep B w' la lc l := by
  have hg : w.grownBy w' (some b) := ⟨hs.1, hs.2.1, hs.2.2, Nat.le_of_eq hl.size.symm, fun k _ hne => hl.heap k (fun e => hne (by rw [e]))⟩
  rcases h with ⟨X, h0, h1, h2⟩ | h
  · exact .inl ⟨X, h0, Ext.of_grown h1 hg (fun k e => by cases e; omega), h2⟩
  · exact .inr (row_kept h hg (e' := 24) (by decide) (fun k e => by cases e; exact ⟨_, _, hb⟩))
set_option maxRecDepth 100000 in
set_option maxHeartbeats 4000000 in
theorem lawStep_ok (B : Nat) (a : Arn) (K M : Int) (la ha : Option Addr) (lc hc : Nat) (w : World) (hl : a.Left.length ≤ 1000) (hl2 : a.Holds.length ≤ 1000) (h1 : LRep B w la lc a.Left) (h2 : LRep B w ha hc a.Holds) (hB : B ≤ w.heap.size) :
    Calls Try.prog 12 #[.agg #[.int .i64 (a).Members, .slice la (a).Left.length lc, .bool (a).Open, .int .i64 (a).Eager, .slice ha (a).Holds.length hc, .bool (a).Swept, .int .i64 (a).Winner, .bool (a).Done], .agg #[.int .i64 K, .int .i64 M]] w fun x w' => ∃ la' lc' ha' hc' va vc, x = .returned (.tuple #[.agg #[.int .i64 ((step a ⟨K, M⟩).1).Members, .slice la' ((step a ⟨K, M⟩).1).Left.length lc', .bool ((step a ⟨K, M⟩).1).Open, .int .i64 ((step a ⟨K, M⟩).1).Eager, .slice ha' ((step a ⟨K, M⟩).1).Holds.length hc', .bool ((step a ⟨K, M⟩).1).Swept, .int .i64 ((step a ⟨K, M⟩).1).Winner, .bool ((step a ⟨K, M⟩).1).Done], .slice va (step a ⟨K, M⟩).2.1.length vc, .int .i64 (step a ⟨K, M⟩).2.2, .bool true]) ∧ Ext w w' ∧ LRep B w' la' lc' (step a ⟨K, M⟩).1.Left ∧ LRep B w' ha' hc' (step a ⟨K, M⟩).1.Holds := by
  have hΦ := rows_lrep B
  have hs1 := fun w' (he : Ext w w') => step_ok (B := w'.heap.size) a K M la ha lc hc w' hl hl2 (hΦ.rep (hΦ.ext h1 he)) (hΦ.rep (hΦ.ext h2 he)) (Nat.le_refl _)
  have hs2 := fun w' (he : Ext w w') => rStep_ok (LRep B) hΦ a K M la ha lc hc w' hl hl2 (hΦ.ext h1 he) (hΦ.ext h2 he)
  have hlen : (step a ⟨K, M⟩).1.Left.length ≤ 1000 ∧ (step a ⟨K, M⟩).1.Holds.length ≤ 1000 ∧ (step a ⟨K, M⟩).2.1.length ≤ 1000 := by
    rcases step_cases a ⟨K, M⟩ with ⟨_, c2, c3⟩ | ⟨c1, _, c3⟩
    · rw [c2, c3]
      simp [Arn.zero]
    · have hv := (refuse_zero c1).1
      have := left_len c3.valid
      have := holds_len c3.valid
      have := vd_len c3 hv
      omega
  obtain ⟨q, hq⟩ : ∃ q, q = step a ⟨K, M⟩ := ⟨_, rfl⟩
  rw [← hq] at hs1 hs2 hlen ⊢
  obtain ⟨l1, l2, l3⟩ := hlen
  replace hs1 := Lib.hid hs1
  replace hs2 := Lib.hid hs2
  replace l1 := Lib.hid l1
  replace l2 := Lib.hid l2
  replace l3 := Lib.hid l3
  obtain ⟨n, hn⟩ : ∃ n, n = a.Left.length := ⟨_, rfl⟩
  obtain ⟨nh, hnh⟩ : ∃ n, n = a.Holds.length := ⟨_, rfl⟩
  rw [← hn] at hs1 hs2 ⊢
  rw [← hnh] at hs1 hs2 ⊢
  clear hn hnh hq h1 h2 hl hl2
  go_enter Try.func12, Try.ntmps12
  go_wp2_with fail
  refine Calls.mono (hs1.out _ (by (repeat (first | exact Ext.refl _ | assumption | refine Ext.alloc ?_ _ | refine Ext.ext ?_ _ | refine Ext.drew ?_)))) ?_
  rintro _ _ ⟨la1, lc1, ha1, hc1, va1, vc1, rfl, ⟨D1, rfl⟩, u1, u2, u3⟩
  replace u1 := Lib.hid u1.low
  replace u2 := Lib.hid u2.low
  replace u3 := Lib.hid u3
  go_wp2_with fail
  refine Calls.mono (hs2.out _ (by (repeat (first | exact Ext.refl _ | assumption | refine Ext.alloc ?_ _ | refine Ext.ext ?_ _ | refine Ext.drew ?_)))) ?_
  rintro _ _ ⟨la2, lc2, ha2, hc2, va2, vc2, rfl, ⟨D2, rfl⟩, v1, v2, v3⟩
  replace v1 := Lib.hid v1
  replace v2 := Lib.hid v2
  replace v3 := Lib.hid v3
  have hEq := Lib.hid fun w' (he : Ext _ w') => rEqual_ok q.1 la1 ha1 la2 ha2 lc1 hc1 lc2 hc2 w' (by have := l1.out; omega) (by have := l2.out; omega) (u1.out.ext (Ext.trans (by (repeat (first | exact Ext.refl _ | assumption | refine Ext.alloc ?_ _ | refine Ext.ext ?_ _ | refine Ext.drew ?_))) he)).rep (u2.out.ext (Ext.trans (by (repeat (first | exact Ext.refl _ | assumption | refine Ext.alloc ?_ _ | refine Ext.ext ?_ _ | refine Ext.drew ?_))) he)).rep (hΦ.rep (hΦ.ext v1.out he)) (hΦ.rep (hΦ.ext v2.out he))
  have hEv := Lib.hid fun w' (he : Ext _ w') => rEqV_ok q.2.1 va1 va2 vc1 vc2 w' (by have := l3.out; omega) (u3.out.ext (Ext.trans (by (repeat (first | exact Ext.refl _ | assumption | refine Ext.alloc ?_ _ | refine Ext.ext ?_ _ | refine Ext.drew ?_))) he)) (v3.out.ext he)
  clear u1 u2 u3 l1 l2 l3 hs1 hs2
  have hlk : Like (fun k => k = w.heap.size + 2) ((((((w.alloc (.cells #[.int .i64 a.Members, .slice la n lc, .bool a.Open, .int .i64 a.Eager, .slice ha nh hc, .bool a.Swept, .int .i64 a.Winner, .bool a.Done] 24)).alloc (.cells #[.int .i64 K, .int .i64 M] 26)).alloc (.cells #[.int .i64 0, .slice none 0 0, .bool false, .int .i64 0, .slice none 0 0, .bool false, .int .i64 0, .bool false] 24)).ext D1).alloc (.cells #[.int .i64 (q.1).Members, .slice la1 (q.1).Left.length lc1, .bool (q.1).Open, .int .i64 (q.1).Eager, .slice ha1 (q.1).Holds.length hc1, .bool (q.1).Swept, .int .i64 (q.1).Winner, .bool (q.1).Done] 24)).ext D2) ((((((w.alloc (.cells #[.int .i64 a.Members, .slice la n lc, .bool a.Open, .int .i64 a.Eager, .slice ha nh hc, .bool a.Swept, .int .i64 a.Winner, .bool a.Done] 24)).alloc (.cells #[.int .i64 K, .int .i64 M] 26)).alloc (.cells #[.int .i64 (q.1).Members, .slice la2 (q.1).Left.length lc2, .bool (q.1).Open, .int .i64 (q.1).Eager, .slice ha2 (q.1).Holds.length hc2, .bool (q.1).Swept, .int .i64 (q.1).Winner, .bool (q.1).Done] 24)).ext D1).alloc (.cells #[.int .i64 (q.1).Members, .slice la1 (q.1).Left.length lc1, .bool (q.1).Open, .int .i64 (q.1).Eager, .slice ha1 (q.1).Holds.length hc1, .bool (q.1).Swept, .int .i64 (q.1).Winner, .bool (q.1).Done] 24)).ext D2) := by (repeat (first | exact Like.refl _ _ | refine Like.ext ?_ _ | refine Like.alloc ?_ _ | refine Like.swap ?_ (by simp <;> omega) _ _))
  have hz : ((((((w.alloc (.cells #[.int .i64 a.Members, .slice la n lc, .bool a.Open, .int .i64 a.Eager, .slice ha nh hc, .bool a.Swept, .int .i64 a.Winner, .bool a.Done] 24)).alloc (.cells #[.int .i64 K, .int .i64 M] 26)).alloc (.cells #[.int .i64 0, .slice none 0 0, .bool false, .int .i64 0, .slice none 0 0, .bool false, .int .i64 0, .bool false] 24)).ext D1).alloc (.cells #[.int .i64 (q.1).Members, .slice la1 (q.1).Left.length lc1, .bool (q.1).Open, .int .i64 (q.1).Eager, .slice ha1 (q.1).Holds.length hc1, .bool (q.1).Swept, .int .i64 (q.1).Winner, .bool (q.1).Done] 24)).ext D2).heap[w.heap.size + 2]? = some (.cells #[.int .i64 0, .slice none 0 0, .bool false, .int .i64 0, .slice none 0 0, .bool false, .int .i64 0, .bool false] 24) := heap_ext1 (heap_alloc1 (heap_ext1 (heap_new _ _ (by simp))))
  have t1 := Lib.hid (v1.out.turn hlk ⟨rfl, rfl, rfl⟩ hz (by omega))
  have t2 := Lib.hid (v2.out.turn hlk ⟨rfl, rfl, rfl⟩ hz (by omega))
  clear v1 v2 hlk hz
  go_upto_region 3 with fail
  (refine wp_region_calm_ops [0, 3, 4, 5, 6, 7, 8, 9, 10, 11, 12, 13, 14] [] [1, 2, 15] [16, 17, 18, 19] (by kernel_rfl) (by kernel_rfl) (by simp only [List.filterMap_cons, List.filterMap_nil, List.getElem?_toArray, List.getElem?_cons_succ, List.getElem?_cons_zero]; try exact rfl) (by simp only [List.filterMap_cons, List.filterMap_nil, List.getElem?_toArray, List.getElem?_cons_succ, List.getElem?_cons_zero]; try exact rfl) (by simp only [List.filterMap_cons, List.filterMap_nil, List.getElem?_toArray, List.getElem?_cons_succ, List.getElem?_cons_zero]; try exact rfl) ?_; (repeat (first | (refine ql_plain rfl rfl ?_; intro K hK; go_big_quiet_op; go_big_quiet_on) | (refine ql_nilCheck rfl rfl rfl ?_; intro K hK; simp only [Act.put, List.setIfInBounds_toArray, List.set_cons_succ, List.set_cons_zero]; go_big_quiet_on) | (refine ql_call (fun _ => hEq.out _ (by (repeat (first | exact Ext.refl _ | assumption | refine Ext.alloc ?_ _ | refine Ext.ext ?_ _ | refine Ext.drew ?_)))) rfl rfl Try.func13 rfl (by kernel_rfl) rfl ?_; intro K hK; simp only [Act.put, List.setIfInBounds_toArray, List.set_cons_succ, List.set_cons_zero]; go_big_quiet_on) | (refine ql_call (fun _ => hEv.out _ (by (repeat (first | exact Ext.refl _ | assumption | refine Ext.alloc ?_ _ | refine Ext.ext ?_ _ | refine Ext.drew ?_)))) rfl rfl Try.func24 rfl (by kernel_rfl) rfl ?_; intro K hK; simp only [Act.put, List.setIfInBounds_toArray, List.set_cons_succ, List.set_cons_zero]; go_big_quiet_on) | (refine ql_skip rfl ?_; intro K hK; simp only [Act.put, List.setIfInBounds_toArray, List.set_cons_succ, List.set_cons_zero]; go_big_quiet_on))); refine ql_nil ?_)
  refine mw0 ?_; (repeat (first | (refine pl_plain rfl rfl ?_; intro K hK; go_big_quiet_op; go_big_quiet_on) | (refine pl_nilCheck rfl rfl rfl ?_; intro K hK; simp only [Act.put, List.setIfInBounds_toArray, List.set_cons_succ, List.set_cons_zero]; go_big_quiet_on))); refine pl_nil ?_; rintro w1 ⟨d1, rfl⟩ -
  go_wp2; refine only_normal ?_
  go_wp2
  (refine bodyPost_ret (v := ?_) (by simp [results, Try.results12, go_sem]; rfl) rfl ?_)
  exact ⟨la2, lc2, ha2, hc2, va2, vc2, rfl, by (repeat (first | exact Ext.refl _ | assumption | refine Ext.alloc ?_ _ | refine Ext.ext ?_ _ | refine Ext.drew ?_)), hΦ.ext t1.out (by (repeat (first | exact Ext.refl _ | assumption | refine Ext.alloc ?_ _ | refine Ext.ext ?_ _ | refine Ext.drew ?_))), hΦ.ext t2.out (by (repeat (first | exact Ext.refl _ | assumption | refine Ext.alloc ?_ _ | refine Ext.ext ?_ _ | refine Ext.drew ?_)))⟩
end Go.Proofs.Ytcnmljpabmgieaa.R
