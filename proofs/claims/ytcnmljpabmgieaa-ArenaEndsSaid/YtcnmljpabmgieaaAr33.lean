/- The reference's arena: Step, the events 1 and 2. -/
import Derived.Test.YtcnmljpabmgieaaAr32
import Derived.Test.YtcnmljpabmgieaaAr28
import Derived.Deep.RegionHeld3
import Derived.WalkKit
import Derived.WalkSpells
import Derived.WalkLawsBesides
import Derived.Deep.QuietTactic
import Derived.BigQuiet
import Derived.BigRegion
import Derived.Lib.Hide
import Derived.Deep.RegionWith
set_option linter.unusedSimpArgs false
set_option linter.unusedVariables false
namespace Go.Proofs.Ytcnmljpabmgieaa.R
open Go.RowKit
/-- how a list that a step hands on is known -/
structure Rows (Φ : World → Option Addr → Nat → List Int → Prop) : Prop where
  ext : ∀ {w w' : World} {a : Option Addr} {c : Nat} {l : List Int}, Φ w a c l → Ext w w' → Φ w' a c l
  rep : ∀ {w : World} {a : Option Addr} {c : Nat} {l : List Int}, Φ w a c l → RepI w a l
  own : ∀ {w : World} {a : Option Addr} {c : Nat} {l : List Int}, OI 0 w a c l → Φ w a c l
theorem Rows.reads : Rows (fun w a _ l => RepI w a l) := ⟨fun h he => h.ext he, id, fun h => h.rep⟩
theorem Rows.owns : Rows (fun w a c l => OI 0 w a c l) := ⟨fun h he => h.ext he, fun h => h.rep, id⟩
/-- decide, with no verdict before -/
theorem rDecide0 (a : Arn) (m : Int) (la ha : Option Addr) (lc hc : Nat) (w : World) (hl : a.Left.length ≤ 1000000) (h : RepI w la a.Left) :
    Calls Try.prog 42 #[.agg #[.int .i64 (a).Members, .slice la (a).Left.length lc, .bool (a).Open, .int .i64 (a).Eager, .slice ha (a).Holds.length hc, .bool (a).Swept, .int .i64 (a).Winner, .bool (a).Done], .int .i64 m, .slice none 0 0] w fun e w' => ∃ va' vc', e = .returned (.tuple #[.agg #[.int .i64 ((decideA a m).1).Members, .slice none ((decideA a m).1).Left.length 0, .bool ((decideA a m).1).Open, .int .i64 ((decideA a m).1).Eager, .slice none ((decideA a m).1).Holds.length 0, .bool ((decideA a m).1).Swept, .int .i64 ((decideA a m).1).Winner, .bool ((decideA a m).1).Done], .slice va' (decideA a m).2.length vc']) ∧ Ext w w' ∧ OV w' va' vc' (decideA a m).2 := by
  refine (rDecide_ok w.heap.size a m la ha lc hc [] none 0 w (Nat.le_refl _) hl (by simp) (.inl ⟨w, Nat.le_refl _, Ext.refl _, h⟩) (World.ownsRow_nil _ _ _ _)).mono ?_
  rintro _ _ ⟨va, vc, rfl, he, ho⟩
  simp only [List.length_nil, Nat.zero_add, List.nil_append] at ho ⊢
  exact ⟨va, vc, rfl, he w (Nat.le_refl _) (Ext.refl _), own_low ho (Nat.zero_le _)⟩
theorem rdec_mk (a : Arn) (m : Int) (la ha : Option Addr) (lc hc : Nat) (w : World) (hl : a.Left.length ≤ 1000000) (h : RepI w la a.Left) :
    Calls Try.prog 42 #[.agg #[.int .i64 (a).Members, .slice la (a).Left.length lc, .bool (a).Open, .int .i64 (a).Eager, .slice ha (a).Holds.length hc, .bool (a).Swept, .int .i64 (a).Winner, .bool (a).Done], .int .i64 m, .slice none 0 0] w fun x w' => ∃ u, x = .returned u ∧ Ext w w' ∧ ArF 0 (decideA a m) u w' ∧ ∀ b, u.blk = some b → w.heap.size ≤ b ∧ b < w'.heap.size := by
  refine (rDecide0 a m la ha lc hc w hl h).mono ?_
  rintro x w' ⟨va, vc, rfl, he, ho⟩
  exact ⟨_, rfl, he, ⟨none, 0, none, 0, va, vc, rfl, OI.nil 0 w', OI.nil 0 w', ho⟩, fun b hb => by cases hb⟩
theorem rep_head {w : World} {a : Option Addr} {l : List Int} (h : RepI w a l) (hl : l ≠ []) : ∃ b off, a = some ⟨b, off, none⟩ ∧ w.cell? ⟨b, off, none⟩ = some (.int .i64 (l.headD 0)) ∧ b < w.heap.size := by
  rcases h with h | ⟨b, off, ha, hi⟩
  · exact absurd h hl
  · cases l with
    | nil => exact absurd rfl hl
    | cons x l =>
      have := hi 0 x rfl
      exact ⟨b, off, ha, this, World.block_lt_of_cell? w _ this⟩
theorem OV.turn2 {w w' : World} {b c : Nat} {y z : Array Value} {va : Option Addr} {vc : Nat} {l : List Vd} (h : OV w va vc l) (hl : Like (fun k => k = b ∨ k = c) w w') (hb : w.heap[b]? = some (.cells y 24)) (hc : w.heap[c]? = some (.cells z 24)) : OV w' va vc l :=
  ownsRow_like h hl (fun k hk e => by
    rcases e with e | e
    · exact own_other h hb (by decide) k hk e
    · exact own_other h hc (by decide) k hk e)
theorem OI.turn2 {B : Nat} {w w' : World} {b c : Nat} {y z : Array Value} {va : Option Addr} {vc : Nat} {l : List Int} (h : OI B w va vc l) (hl : Like (fun k => k = b ∨ k = c) w w') (hb : w.heap[b]? = some (.cells y 24)) (hc : w.heap[c]? = some (.cells z 24)) : OI B w' va vc l :=
  ownsRow_like h hl (fun k hk e => by
    rcases e with e | e
    · exact own_other h hb (by decide) k hk e
    · exact own_other h hc (by decide) k hk e)
set_option maxRecDepth 100000 in
set_option maxHeartbeats 4000000 in
theorem rStep1 (Φ : World → Option Addr → Nat → List Int → Prop) (hΦ : Rows Φ) (a : Arn) (M : Int) (la ha : Option Addr) (lc hc : Nat) (w : World) (h1 : Φ w la lc a.Left) (h2 : Φ w ha hc a.Holds) (hr : refuse a ⟨1, M⟩ = 0) :
    Calls Try.prog 23 #[.agg #[.int .i64 (a).Members, .slice la (a).Left.length lc, .bool (a).Open, .int .i64 (a).Eager, .slice ha (a).Holds.length hc, .bool (a).Swept, .int .i64 (a).Winner, .bool (a).Done], .agg #[.int .i64 1, .int .i64 M]] w fun x w' => ∃ la' lc' ha' hc' va vc, x = .returned (.tuple #[.agg #[.int .i64 ((act a ⟨1, M⟩).1).Members, .slice la' ((act a ⟨1, M⟩).1).Left.length lc', .bool ((act a ⟨1, M⟩).1).Open, .int .i64 ((act a ⟨1, M⟩).1).Eager, .slice ha' ((act a ⟨1, M⟩).1).Holds.length hc', .bool ((act a ⟨1, M⟩).1).Swept, .int .i64 ((act a ⟨1, M⟩).1).Winner, .bool ((act a ⟨1, M⟩).1).Done], .slice va (act a ⟨1, M⟩).2.length vc, .int .i64 0]) ∧ Ext w w' ∧ Φ w' la' lc' (act a ⟨1, M⟩).1.Left ∧ Φ w' ha' hc' (act a ⟨1, M⟩).1.Holds ∧ OV w' va vc (act a ⟨1, M⟩).2 := by
  obtain ⟨hv, hd, -, -, -, -, -, -⟩ := refuse_zero hr
  have hll := left_len hv
  have hlh := holds_len hv
  have hck := fun w' (he : Ext w w') => rCheck_ok a la ha lc hc w' (by omega) (by omega) (hΦ.rep (hΦ.ext h1 he)) (hΦ.rep (hΦ.ext h2 he))
  have hrf := fun w' (he : Ext w w') => rRef_ok a 1 M la ha lc hc w' (by omega) (by omega) (hΦ.rep (hΦ.ext h1 he)) (hΦ.rep (hΦ.ext h2 he))
  rw [(check_zero a).2 hv] at hck
  rw [rref_eq a _ ((check_zero a).2 hv), hr] at hrf
  replace hck := Lib.hid hck
  replace hrf := Lib.hid hrf
  have hdc := fun m w' (he : Ext w w') => rDecide0 { a with Open := false } m la ha lc hc w' (by simp only; omega) (hΦ.rep (hΦ.ext h1 he))
  simp only at hdc
  replace hdc := Lib.hid hdc
  obtain ⟨q, hq⟩ : ∃ q, q = act a ⟨1, M⟩ := ⟨_, rfl⟩
  rw [← hq]
  rw [← ract_eq a _ hr] at hq
  unfold ract at hq
  simp only [if_true] at hq
  have hl1 := Lib.hid fun w' (he : Ext w w') => hΦ.ext h1 he
  have hl2 := Lib.hid fun w' (he : Ext w w') => hΦ.ext h2 he
  have hown := Lib.hid fun w' => hΦ.own (w := w') (OI.nil 0 w')
  clear h1 h2 hv hr hd
  obtain ⟨n, hn⟩ : ∃ n, n = a.Left.length := ⟨_, rfl⟩
  obtain ⟨nh, hnh⟩ : ∃ n, n = a.Holds.length := ⟨_, rfl⟩
  rw [← hn] at hck hrf hdc hll hq ⊢
  rw [← hnh] at hck hrf hdc hlh ⊢
  replace hn := Lib.hid hn
  replace hnh := Lib.hid hnh
  by_cases e1 : 0 ≤ a.Eager
  focus
    rw [if_pos e1] at hq
    replace hq := Lib.hid hq
    have d1 : decide (0 ≤ a.Eager) = true := decide_eq_true e1
    clear e1
    (go_enter Try.func23, Try.ntmps23; (go_wp2_with fail); (refine Calls.mono (hck.out _ (by (repeat (first | exact Ext.refl _ | assumption | refine Ext.alloc ?_ _ | refine Ext.ext ?_ _ | refine Ext.drew ?_)))) ?_); (rintro _ _ ⟨rfl, D1, rfl⟩); (go_wp2_with fail); (refine Calls.mono (hrf.out _ (by (repeat (first | exact Ext.refl _ | assumption | refine Ext.alloc ?_ _ | refine Ext.ext ?_ _ | refine Ext.drew ?_)))) ?_); (rintro _ _ ⟨rfl, D2, rfl⟩))
    go_wp2_with fail
    refine Calls.mono (hdc.out _ _ (by (repeat (first | exact Ext.refl _ | assumption | refine Ext.alloc ?_ _ | refine Ext.ext ?_ _ | refine Ext.drew ?_)))) ?_
    rintro _ _ ⟨va, vc, rfl, ⟨D3, rfl⟩, ho⟩
    rw [← hq.out] at ho ⊢
    have hv2 : OV ((((((w.alloc (.cells #[.int .i64 (q.1).Members, .slice none (q.1).Left.length 0, .bool (q.1).Open, .int .i64 (q.1).Eager, .slice none (q.1).Holds.length 0, .bool (q.1).Swept, .int .i64 (q.1).Winner, .bool (q.1).Done] 24)).alloc (.cells #[.int .i64 1, .int .i64 M] 26)).alloc (.cells #[.int .i64 (q.1).Members, .slice none (q.1).Left.length 0, .bool (q.1).Open, .int .i64 (q.1).Eager, .slice none (q.1).Holds.length 0, .bool (q.1).Swept, .int .i64 (q.1).Winner, .bool (q.1).Done] 24)).ext D1).ext D2).ext D3) va vc q.2 :=
      ho.turn2 (b := w.heap.size) (c := w.heap.size + 2) (by (repeat (first | exact Like.refl _ _ | refine Like.ext ?_ _ | refine Like.alloc ?_ _ | refine Like.swap ?_ (by simp <;> omega) _ _))) (heap_ext1 (heap_ext1 (heap_ext1 (heap_alloc1 (heap_alloc1 (heap_new _ _ rfl)))))) (heap_ext1 (heap_ext1 (heap_ext1 (heap_new _ _ (by simp)))))
    replace hv2 := Lib.hid hv2
    have hqL : Hid (q.1.Left = [] ∧ q.1.Holds = []) := Lib.hid (by rw [hq.out]; exact ⟨rfl, rfl⟩)
    clear ho
    go_wp2
    (refine bodyPost_ret (v := ?_) (by simp [results, Try.results23, go_sem]; rfl) rfl ?_)
    refine ⟨none, 0, none, 0, va, vc, rfl, by (repeat (first | exact Ext.refl _ | assumption | refine Ext.alloc ?_ _ | refine Ext.ext ?_ _ | refine Ext.drew ?_)), ?_, ?_, hv2.out⟩
    · rw [hqL.out.1]; exact hown.out _
    · rw [hqL.out.2]; exact hown.out _
  rw [if_neg e1] at hq
  have d1 : decide (0 ≤ a.Eager) = false := decide_eq_false e1
  clear e1 hdc
  by_cases l0 : n = 0
  focus
    rw [if_pos l0] at hq
    have d2 : ((n : Int) == 0) = true := by simp; omega
    replace hq := Lib.hid hq
    clear l0
    (go_enter Try.func23, Try.ntmps23; (go_wp2_with fail); (refine Calls.mono (hck.out _ (by (repeat (first | exact Ext.refl _ | assumption | refine Ext.alloc ?_ _ | refine Ext.ext ?_ _ | refine Ext.drew ?_)))) ?_); (rintro _ _ ⟨rfl, D1, rfl⟩); (go_wp2_with fail); (refine Calls.mono (hrf.out _ (by (repeat (first | exact Ext.refl _ | assumption | refine Ext.alloc ?_ _ | refine Ext.ext ?_ _ | refine Ext.drew ?_)))) ?_); (rintro _ _ ⟨rfl, D2, rfl⟩))
    go_wp2
    ((refine bodyPost_ret (v := ?_) (by simp [results, Try.results23, go_sem]; rfl) rfl ?_); (obtain rfl := hn.out); (obtain rfl := hnh.out); (obtain rfl := hq.out); (refine ⟨la, lc, ha, hc, none, 0, rfl, ?_, hl1.out _ ?_, hl2.out _ ?_, OV.nil _⟩); (all_goals (repeat (first | exact Ext.refl _ | assumption | refine Ext.alloc ?_ _ | refine Ext.ext ?_ _ | refine Ext.drew ?_))))
  rw [if_neg l0] at hq
  have d2 : ((n : Int) == 0) = false := by simp; omega
  by_cases l1 : n = 1
  focus
    rw [if_pos l1] at hq
    have d3 : ((n : Int) == 1) = true := by simp; omega
    have hne : a.Left ≠ [] := fun h => l0 (by rw [hn.out, h]; rfl)
    obtain ⟨b, off, rfl, c0, hbl⟩ := rep_head (hΦ.rep (hl1.out w (Ext.refl _))) hne
    have hdm := fun w' (he : Ext w w') => rdec_mk { a with Open := false } (a.Left.headD 0) (some ⟨b, off, none⟩) ha lc hc w' (by simp only; have := hn.out; omega) (hΦ.rep (hl1.out w' he))
    simp only at hdm
    rw [← hq, ← hn.out, ← hnh.out] at hdm
    obtain ⟨x0, hx0⟩ : ∃ x0, x0 = a.Left.headD 0 := ⟨_, rfl⟩
    rw [← hx0] at hdm c0
    have hpos : 0 < n := by omega
    replace hq := Lib.hid hq
    replace hdm := Lib.hid hdm
    clear l0 l1 hne hx0
    (go_enter Try.func23, Try.ntmps23; (go_wp2_with fail); (refine Calls.mono (hck.out _ (by (repeat (first | exact Ext.refl _ | assumption | refine Ext.alloc ?_ _ | refine Ext.ext ?_ _ | refine Ext.drew ?_)))) ?_); (rintro _ _ ⟨rfl, D1, rfl⟩); (go_wp2_with fail); (refine Calls.mono (hrf.out _ (by (repeat (first | exact Ext.refl _ | assumption | refine Ext.alloc ?_ _ | refine Ext.ext ?_ _ | refine Ext.drew ?_)))) ?_); (rintro _ _ ⟨rfl, D2, rfl⟩))
    go_wp2
    ((refine wp_region_segs (fun i => if i = 6 then some (ArF 0 q, ArS q) else none) [([0, 1, 2, 3, 4, 5], .m, 6)] [7, 8] [9] [10, 11] (by kernel_rfl) (by kernel_rfl) (by simp only [List.map_cons, List.map_nil, List.filterMap_cons, List.filterMap_nil, List.getElem?_toArray, List.getElem?_cons_succ, List.getElem?_cons_zero]; try exact rfl) (by simp only [List.filterMap_cons, List.filterMap_nil, List.getElem?_toArray, List.getElem?_cons_succ, List.getElem?_cons_zero]; try exact rfl) (by simp only [List.filterMap_cons, List.filterMap_nil, List.getElem?_toArray, List.getElem?_cons_succ, List.getElem?_cons_zero]; try exact rfl) (by simp only [List.filterMap_cons, List.filterMap_nil, List.getElem?_toArray, List.getElem?_cons_succ, List.getElem?_cons_zero]; try exact rfl) (by decide) ?_); (refine sg_m ?_; (repeat (first | (refine ql_plain rfl rfl ?_; intro K hK; go_big_quiet_op; go_big_quiet_on) | (refine ql_nilCheck rfl rfl rfl ?_; intro K hK; simp only [Act.put, List.setIfInBounds_toArray, List.set_cons_succ, List.set_cons_zero]; go_big_quiet_on) | fail | (refine ql_skip rfl ?_; intro K hK; simp only [Act.put, List.setIfInBounds_toArray, List.set_cons_succ, List.set_cons_zero]; go_big_quiet_on))); refine ql_nil ?_); (refine sg_call (f := 42) (ArF 0 q) (ArS q) rfl (ArF.shp 0 q) (ArF.stable 0 q) (fun d => hdm.out _ (by (repeat (first | exact Ext.refl _ | assumption | refine Ext.alloc ?_ _ | refine Ext.ext ?_ _ | refine Ext.drew ?_)))) (by simp only [List.getElem?_toArray, List.getElem?_cons_succ, List.getElem?_cons_zero]; try exact rfl) rfl rfl Try.func42 rfl (by kernel_rfl) rfl ?_; intro u hu hS K hK; obtain ⟨la', lc', ha', hc', va, vc, rfl⟩ := hS; simp only [Act.put, List.setIfInBounds_toArray, List.set_cons_succ, List.set_cons_zero]; refine hK _ ?_; clear hK K); (refine sg_last ?_; (repeat (first | (refine ql_plain rfl rfl ?_; intro K hK; go_big_quiet_op; go_big_quiet_on) | (refine ql_nilCheck rfl rfl rfl ?_; intro K hK; simp only [Act.put, List.setIfInBounds_toArray, List.set_cons_succ, List.set_cons_zero]; go_big_quiet_on) | fail | (refine ql_skip rfl ?_; intro K hK; simp only [Act.put, List.setIfInBounds_toArray, List.set_cons_succ, List.set_cons_zero]; go_big_quiet_on))); refine ql_nil ?_; (repeat (first | (refine pl_plain rfl rfl ?_; intro K hK; go_big_quiet_op; go_big_quiet_on) | (refine pl_nilCheck rfl rfl rfl ?_; intro K hK; simp only [Act.put, List.setIfInBounds_toArray, List.set_cons_succ, List.set_cons_zero]; go_big_quiet_on))); refine pl_nil ?_); (rintro w1 ⟨D3, rfl⟩ ⟨_, hf⟩); (obtain ⟨u1, u2, u3⟩ := ArF.use hf))
    (have hlk : Like (fun k => k = w.heap.size ∨ k = w.heap.size + 2) ((((((w.alloc (.cells #[.int .i64 a.Members, .slice (some ⟨b, off, none⟩) n lc, .bool false, .int .i64 a.Eager, .slice ha nh hc, .bool a.Swept, .int .i64 a.Winner, .bool a.Done] 24)).alloc (.cells #[.int .i64 1, .int .i64 M] 26)).alloc (.cells #[.int .i64 0, .slice none 0 0, .bool false, .int .i64 0, .slice none 0 0, .bool false, .int .i64 0, .bool false] 24)).ext D1).ext D2).ext D3) ((((((w.alloc (.cells #[.int .i64 (q.1).Members, .slice la' (q.1).Left.length lc', .bool (q.1).Open, .int .i64 (q.1).Eager, .slice ha' (q.1).Holds.length hc', .bool (q.1).Swept, .int .i64 (q.1).Winner, .bool (q.1).Done] 24)).alloc (.cells #[.int .i64 1, .int .i64 M] 26)).alloc (.cells #[.int .i64 (q.1).Members, .slice la' (q.1).Left.length lc', .bool (q.1).Open, .int .i64 (q.1).Eager, .slice ha' (q.1).Holds.length hc', .bool (q.1).Swept, .int .i64 (q.1).Winner, .bool (q.1).Done] 24)).ext D1).ext D2).ext D3) := by (repeat (first | exact Like.refl _ _ | refine Like.ext ?_ _ | refine Like.alloc ?_ _ | refine Like.swap ?_ (by simp <;> omega) _ _))); (have hb1 : ((((((w.alloc (.cells #[.int .i64 a.Members, .slice (some ⟨b, off, none⟩) n lc, .bool false, .int .i64 a.Eager, .slice ha nh hc, .bool a.Swept, .int .i64 a.Winner, .bool a.Done] 24)).alloc (.cells #[.int .i64 1, .int .i64 M] 26)).alloc (.cells #[.int .i64 0, .slice none 0 0, .bool false, .int .i64 0, .slice none 0 0, .bool false, .int .i64 0, .bool false] 24)).ext D1).ext D2).ext D3).heap[w.heap.size]? = some (.cells #[.int .i64 a.Members, .slice (some ⟨b, off, none⟩) n lc, .bool false, .int .i64 a.Eager, .slice ha nh hc, .bool a.Swept, .int .i64 a.Winner, .bool a.Done] 24) := heap_ext1 (heap_ext1 (heap_ext1 (heap_alloc1 (heap_alloc1 (heap_new _ _ rfl)))))); (have hb2 : ((((((w.alloc (.cells #[.int .i64 a.Members, .slice (some ⟨b, off, none⟩) n lc, .bool false, .int .i64 a.Eager, .slice ha nh hc, .bool a.Swept, .int .i64 a.Winner, .bool a.Done] 24)).alloc (.cells #[.int .i64 1, .int .i64 M] 26)).alloc (.cells #[.int .i64 0, .slice none 0 0, .bool false, .int .i64 0, .slice none 0 0, .bool false, .int .i64 0, .bool false] 24)).ext D1).ext D2).ext D3).heap[w.heap.size + 2]? = some (.cells #[.int .i64 0, .slice none 0 0, .bool false, .int .i64 0, .slice none 0 0, .bool false, .int .i64 0, .bool false] 24) := heap_ext1 (heap_ext1 (heap_ext1 (heap_new _ _ (by simp))))); (have x1 := Lib.hid (OI.turn2 u1 hlk hb1 hb2)); (have x2 := Lib.hid (OI.turn2 u2 hlk hb1 hb2)); (have x3 := Lib.hid (OV.turn2 u3 hlk hb1 hb2)); clear hlk hb1 hb2 u1 u2 u3
    clear hf
    go_wp2; refine only_normal ?_
    go_wp2
    ((refine bodyPost_ret (v := ?_) (by simp [results, Try.results23, go_sem]; rfl) rfl ?_); exact ⟨la', lc', ha', hc', va, vc, rfl, by (repeat (first | exact Ext.refl _ | assumption | refine Ext.alloc ?_ _ | refine Ext.ext ?_ _ | refine Ext.drew ?_)), hΦ.own x1.out, hΦ.own x2.out, x3.out⟩)
  rw [if_neg l1] at hq
  have d3 : ((n : Int) == 1) = false := by simp; omega
  replace hq := Lib.hid hq
  clear l0 l1
  (go_enter Try.func23, Try.ntmps23; (go_wp2_with fail); (refine Calls.mono (hck.out _ (by (repeat (first | exact Ext.refl _ | assumption | refine Ext.alloc ?_ _ | refine Ext.ext ?_ _ | refine Ext.drew ?_)))) ?_); (rintro _ _ ⟨rfl, D1, rfl⟩); (go_wp2_with fail); (refine Calls.mono (hrf.out _ (by (repeat (first | exact Ext.refl _ | assumption | refine Ext.alloc ?_ _ | refine Ext.ext ?_ _ | refine Ext.drew ?_)))) ?_); (rintro _ _ ⟨rfl, D2, rfl⟩))
  go_wp2
  ((refine bodyPost_ret (v := ?_) (by simp [results, Try.results23, go_sem]; rfl) rfl ?_); (obtain rfl := hn.out); (obtain rfl := hnh.out); (obtain rfl := hq.out); (refine ⟨la, lc, ha, hc, none, 0, rfl, ?_, hl1.out _ ?_, hl2.out _ ?_, OV.nil _⟩); (all_goals (repeat (first | exact Ext.refl _ | assumption | refine Ext.alloc ?_ _ | refine Ext.ext ?_ _ | refine Ext.drew ?_))))
set_option maxRecDepth 100000 in
set_option maxHeartbeats 4000000 in
theorem rStep2 (Φ : World → Option Addr → Nat → List Int → Prop) (hΦ : Rows Φ) (a : Arn) (M : Int) (la ha : Option Addr) (lc hc : Nat) (w : World) (h1 : Φ w la lc a.Left) (h2 : Φ w ha hc a.Holds) (hr : refuse a ⟨2, M⟩ = 0) :
    Calls Try.prog 23 #[.agg #[.int .i64 (a).Members, .slice la (a).Left.length lc, .bool (a).Open, .int .i64 (a).Eager, .slice ha (a).Holds.length hc, .bool (a).Swept, .int .i64 (a).Winner, .bool (a).Done], .agg #[.int .i64 2, .int .i64 M]] w fun x w' => ∃ la' lc' ha' hc' va vc, x = .returned (.tuple #[.agg #[.int .i64 ((act a ⟨2, M⟩).1).Members, .slice la' ((act a ⟨2, M⟩).1).Left.length lc', .bool ((act a ⟨2, M⟩).1).Open, .int .i64 ((act a ⟨2, M⟩).1).Eager, .slice ha' ((act a ⟨2, M⟩).1).Holds.length hc', .bool ((act a ⟨2, M⟩).1).Swept, .int .i64 ((act a ⟨2, M⟩).1).Winner, .bool ((act a ⟨2, M⟩).1).Done], .slice va (act a ⟨2, M⟩).2.length vc, .int .i64 0]) ∧ Ext w w' ∧ Φ w' la' lc' (act a ⟨2, M⟩).1.Left ∧ Φ w' ha' hc' (act a ⟨2, M⟩).1.Holds ∧ OV w' va vc (act a ⟨2, M⟩).2 := by
  obtain ⟨hv, hd, -, -, -, -, -, -⟩ := refuse_zero hr
  have hll := left_len hv
  have hlh := holds_len hv
  have hck := fun w' (he : Ext w w') => rCheck_ok a la ha lc hc w' (by omega) (by omega) (hΦ.rep (hΦ.ext h1 he)) (hΦ.rep (hΦ.ext h2 he))
  have hrf := fun w' (he : Ext w w') => rRef_ok a 2 M la ha lc hc w' (by omega) (by omega) (hΦ.rep (hΦ.ext h1 he)) (hΦ.rep (hΦ.ext h2 he))
  rw [(check_zero a).2 hv] at hck
  rw [rref_eq a _ ((check_zero a).2 hv), hr] at hrf
  replace hck := Lib.hid hck
  replace hrf := Lib.hid hrf
  obtain ⟨q, hq⟩ : ∃ q, q = act a ⟨2, M⟩ := ⟨_, rfl⟩
  rw [← hq]
  rw [← ract_eq a _ hr] at hq
  unfold ract at hq
  have hl1 := Lib.hid fun w' (he : Ext w w') => hΦ.ext h1 he
  have hl2 := Lib.hid fun w' (he : Ext w w') => hΦ.ext h2 he
  have hdc := Lib.hid fun m w' (he : Ext w w') => rDecide0 a m la ha lc hc w' (by omega) (hΦ.rep (hΦ.ext h1 he))
  simp only [show ((2 : Int) = 1) = False by simp, if_false, if_true] at hq
  clear h1 h2 hv hr hd
  obtain ⟨n, hn⟩ : ∃ n, n = a.Left.length := ⟨_, rfl⟩
  obtain ⟨nh, hnh⟩ : ∃ n, n = a.Holds.length := ⟨_, rfl⟩
  rw [← hn] at hck hrf hdc hll ⊢
  rw [← hnh] at hck hrf hdc hlh ⊢
  replace hn := Lib.hid hn
  replace hnh := Lib.hid hnh
  rcases hO : a.Open with _ | _
  focus
    (try rw [hO] at hq); (try rw [hO] at hck); (try rw [hO] at hrf); (try rw [hO] at hdc); (try rw [hO])
    simp only [Bool.false_eq_true, if_false] at hq
    replace hq := Lib.hid hq
    clear hO
    (go_enter Try.func23, Try.ntmps23; (go_wp2_with fail); (refine Calls.mono (hck.out _ (by (repeat (first | exact Ext.refl _ | assumption | refine Ext.alloc ?_ _ | refine Ext.ext ?_ _ | refine Ext.drew ?_)))) ?_); (rintro _ _ ⟨rfl, D1, rfl⟩); (go_wp2_with fail); (refine Calls.mono (hrf.out _ (by (repeat (first | exact Ext.refl _ | assumption | refine Ext.alloc ?_ _ | refine Ext.ext ?_ _ | refine Ext.drew ?_)))) ?_); (rintro _ _ ⟨rfl, D2, rfl⟩))
    go_wp2_with fail
    refine Calls.mono (hdc.out _ _ (by (repeat (first | exact Ext.refl _ | assumption | refine Ext.alloc ?_ _ | refine Ext.ext ?_ _ | refine Ext.drew ?_)))) ?_
    rintro _ _ ⟨va, vc, rfl, ⟨D3, rfl⟩, ho⟩
    rw [← hq.out] at ho ⊢
    have hv2 : OV ((((((w.alloc (.cells #[.int .i64 (q.1).Members, .slice none (q.1).Left.length 0, .bool (q.1).Open, .int .i64 (q.1).Eager, .slice none (q.1).Holds.length 0, .bool (q.1).Swept, .int .i64 (q.1).Winner, .bool (q.1).Done] 24)).alloc (.cells #[.int .i64 2, .int .i64 M] 26)).alloc (.cells #[.int .i64 (q.1).Members, .slice none (q.1).Left.length 0, .bool (q.1).Open, .int .i64 (q.1).Eager, .slice none (q.1).Holds.length 0, .bool (q.1).Swept, .int .i64 (q.1).Winner, .bool (q.1).Done] 24)).ext D1).ext D2).ext D3) va vc q.2 :=
      ho.turn2 (b := w.heap.size) (c := w.heap.size + 2) (by (repeat (first | exact Like.refl _ _ | refine Like.ext ?_ _ | refine Like.alloc ?_ _ | refine Like.swap ?_ (by simp <;> omega) _ _))) (heap_ext1 (heap_ext1 (heap_ext1 (heap_alloc1 (heap_alloc1 (heap_new _ _ rfl)))))) (heap_ext1 (heap_ext1 (heap_ext1 (heap_new _ _ (by simp)))))
    replace hv2 := Lib.hid hv2
    have hqL : Hid (q.1.Left = [] ∧ q.1.Holds = []) := Lib.hid (by rw [hq.out]; exact ⟨rfl, rfl⟩)
    have hown := Lib.hid fun w' => hΦ.own (w := w') (OI.nil 0 w')
    clear ho
    go_wp2
    (refine bodyPost_ret (v := ?_) (by simp [results, Try.results23, go_sem]; rfl) rfl ?_)
    refine ⟨none, 0, none, 0, va, vc, rfl, by (repeat (first | exact Ext.refl _ | assumption | refine Ext.alloc ?_ _ | refine Ext.ext ?_ _ | refine Ext.drew ?_)), ?_, ?_, hv2.out⟩
    · rw [hqL.out.1]; exact hown.out _
    · rw [hqL.out.2]; exact hown.out _
  (try rw [hO] at hq); (try rw [hO] at hck); (try rw [hO] at hrf); (try rw [hO] at hdc); (try rw [hO])
  simp only [if_true] at hq
  have hOh := Lib.hid hO
  clear hdc hO
  by_cases e1 : a.Eager < 0
  focus
    rw [if_pos e1] at hq
    have d1 : decide (a.Eager < 0) = true := decide_eq_true e1
    replace hq := Lib.hid hq
    clear e1
    (go_enter Try.func23, Try.ntmps23; (go_wp2_with fail); (refine Calls.mono (hck.out _ (by (repeat (first | exact Ext.refl _ | assumption | refine Ext.alloc ?_ _ | refine Ext.ext ?_ _ | refine Ext.drew ?_)))) ?_); (rintro _ _ ⟨rfl, D1, rfl⟩); (go_wp2_with fail); (refine Calls.mono (hrf.out _ (by (repeat (first | exact Ext.refl _ | assumption | refine Ext.alloc ?_ _ | refine Ext.ext ?_ _ | refine Ext.drew ?_)))) ?_); (rintro _ _ ⟨rfl, D2, rfl⟩))
    go_wp2
    ((refine bodyPost_ret (v := ?_) (by simp [results, Try.results23, go_sem]; rfl) rfl ?_); (obtain rfl := hn.out); (obtain rfl := hnh.out); (obtain rfl := hq.out); (refine ⟨la, lc, ha, hc, none, 0, by simp only [hOh.out]; rfl, ?_, hl1.out _ ?_, hl2.out _ ?_, OV.nil _⟩); (all_goals (repeat (first | exact Ext.refl _ | assumption | refine Ext.alloc ?_ _ | refine Ext.ext ?_ _ | refine Ext.drew ?_))))
  rw [if_neg e1] at hq
  have d1 : decide (a.Eager < 0) = false := decide_eq_false e1
  replace hq := Lib.hid hq
  clear e1
  (go_enter Try.func23, Try.ntmps23; (go_wp2_with fail); (refine Calls.mono (hck.out _ (by (repeat (first | exact Ext.refl _ | assumption | refine Ext.alloc ?_ _ | refine Ext.ext ?_ _ | refine Ext.drew ?_)))) ?_); (rintro _ _ ⟨rfl, D1, rfl⟩); (go_wp2_with fail); (refine Calls.mono (hrf.out _ (by (repeat (first | exact Ext.refl _ | assumption | refine Ext.alloc ?_ _ | refine Ext.ext ?_ _ | refine Ext.drew ?_)))) ?_); (rintro _ _ ⟨rfl, D2, rfl⟩))
  go_wp2
  ((refine bodyPost_ret (v := ?_) (by simp [results, Try.results23, go_sem]; rfl) rfl ?_); (obtain rfl := hn.out); (obtain rfl := hnh.out); (obtain rfl := hq.out); (refine ⟨la, lc, ha, hc, none, 0, by simp only [hOh.out]; rfl, ?_, hl1.out _ ?_, hl2.out _ ?_, OV.nil _⟩); (all_goals (repeat (first | exact Ext.refl _ | assumption | refine Ext.alloc ?_ _ | refine Ext.ext ?_ _ | refine Ext.drew ?_))))
end Go.Proofs.Ytcnmljpabmgieaa.R
