/- settle, closed. -/
import Derived.Test.YtcnmljpabmgieaaAr4
import Derived.WalkKit
import Derived.WalkSpells
import Derived.WalkLawsBesides
import Derived.Deep.QuietTactic
import Derived.BigQuiet
import Derived.BigRegion
import Derived.Lib.Hide
import Derived.Deep.RegionWith
set_option linter.unusedSimpArgs false
set_option linter.unusedVariables false
namespace Go.Proofs.Ytcnmljpabmgieaa.R
open Go.RowKit
def OV (w : World) (va : Option Addr) (vc : Nat) (vs : List Vd) : Prop := w.ownsRow 0 45 2 (.slice va vs.length vc) vs.length (vs.flatMap vdL)
theorem OV.ext {w w' : World} {va : Option Addr} {vc : Nat} {vs : List Vd} (h : OV w va vc vs) (he : Ext w w') : OV w' va vc vs := ownsRow_ext h he
theorem OV.nil (w : World) : OV w none 0 [] := World.ownsRow_nil _ _ _ _
/-- an arena and verdicts, handed back -/
def ArF (B : Nat) (q : Arn × List Vd) (u : Value) : Facts := fun w => ∃ la lc ha hc va vc, u = .tuple #[.agg #[.int .i64 (q.1).Members, .slice la (q.1).Left.length lc, .bool (q.1).Open, .int .i64 (q.1).Eager, .slice ha (q.1).Holds.length hc, .bool (q.1).Swept, .int .i64 (q.1).Winner, .bool (q.1).Done], .slice va q.2.length vc] ∧ OI B w la lc q.1.Left ∧ OI B w ha hc q.1.Holds ∧ OV w va vc q.2
def ArS (q : Arn × List Vd) : Shp := .of (fun u => ∃ la lc ha hc va vc, u = .tuple #[.agg #[.int .i64 (q.1).Members, .slice la (q.1).Left.length lc, .bool (q.1).Open, .int .i64 (q.1).Eager, .slice ha (q.1).Holds.length hc, .bool (q.1).Swept, .int .i64 (q.1).Winner, .bool (q.1).Done], .slice va q.2.length vc]) (.tuple #[.agg #[.int .i64 (q.1).Members, .slice none (q.1).Left.length 0, .bool (q.1).Open, .int .i64 (q.1).Eager, .slice none (q.1).Holds.length 0, .bool (q.1).Swept, .int .i64 (q.1).Winner, .bool (q.1).Done], .slice none q.2.length 0]) ⟨none, 0, none, 0, none, 0, rfl⟩ rfl
theorem ArF.stable (B : Nat) (q : Arn × List Vd) : Stable (ArF B q) := fun _ _ _ ⟨la, lc, ha, hc, va, vc, h1, h2, h3, h4⟩ he => ⟨la, lc, ha, hc, va, vc, h1, h2.ext he, h3.ext he, h4.ext he⟩
theorem ArF.shp (B : Nat) (q : Arn × List Vd) : ∀ u w, ArF B q u w → (ArS q).ok u := fun _ _ ⟨la, lc, ha, hc, va, vc, h, _⟩ => ⟨la, lc, ha, hc, va, vc, h⟩
theorem ArF.use {B : Nat} {q : Arn × List Vd} {la ha va : Option Addr} {lc hc vc : Nat} {w : World} (h : ArF B q (.tuple #[.agg #[.int .i64 (q.1).Members, .slice la (q.1).Left.length lc, .bool (q.1).Open, .int .i64 (q.1).Eager, .slice ha (q.1).Holds.length hc, .bool (q.1).Swept, .int .i64 (q.1).Winner, .bool (q.1).Done], .slice va q.2.length vc]) w) : OI B w la lc q.1.Left ∧ OI B w ha hc q.1.Holds ∧ OV w va vc q.2 := by
  obtain ⟨la', lc', ha', hc', va', vc', h1, h2, h3, h4⟩ := h
  simp only [Value.tuple.injEq, Array.mk.injEq, List.cons.injEq, Value.agg.injEq, Value.slice.injEq, true_and, and_true] at h1
  obtain ⟨⟨⟨rfl, rfl⟩, rfl, rfl⟩, rfl, rfl⟩ := h1
  exact ⟨h2, h3, h4⟩
theorem dec_mk (B : Nat) (a : Arn) (m : Int) (la ha : Option Addr) (lc hc : Nat) (w : World) (hl : a.Left.length ≤ 1000000) (h : RepI w la a.Left) :
    Calls Try.prog 36 #[.agg #[.int .i64 (a).Members, .slice la (a).Left.length lc, .bool (a).Open, .int .i64 (a).Eager, .slice ha (a).Holds.length hc, .bool (a).Swept, .int .i64 (a).Winner, .bool (a).Done], .int .i64 m] w fun x w' => ∃ u, x = .returned u ∧ Ext w w' ∧ ArF B (decideA a m) u w' ∧ ∀ b, u.blk = some b → w.heap.size ≤ b ∧ b < w'.heap.size := by
  refine (decide_ok a m la ha lc hc w hl h).mono ?_
  rintro x w' ⟨va, vc, rfl, he, ho⟩
  exact ⟨_, rfl, he, ⟨none, 0, none, 0, va, vc, rfl, OI.nil B w', OI.nil B w', own_low ho (Nat.zero_le _)⟩, fun b hb => by cases hb⟩
theorem OI.head {B : Nat} {w : World} {a : Option Addr} {c : Nat} {l : List Int} (h : OI B w a c l) (hl : l ≠ []) : ∃ g, a = some ⟨g, 0, none⟩ ∧ w.cell? ⟨g, 0, none⟩ = some (.int .i64 (l.headD 0)) ∧ g < w.heap.size := by
  rcases h.2 with ⟨_, h0⟩ | ⟨g, cap, cur, hv, hB, hg, hn, hm, hs, ht⟩
  · exact absurd (List.length_eq_zero_iff.1 h0) hl
  · simp only [Value.slice.injEq] at hv
    obtain ⟨rfl, _, _⟩ := hv
    refine ⟨g, rfl, ?_, (Array.getElem?_eq_some_iff.1 hg).1⟩
    have hr := row_ints h
    rcases hr with hr | ⟨b, off, hb, hi⟩
    · exact absurd hr hl
    · simp only [Option.some.injEq, Addr.mk.injEq, and_true] at hb
      obtain ⟨rfl, rfl⟩ := hb
      cases l with
      | nil => exact absurd rfl hl
      | cons x l => exact hi 0 x rfl
theorem OI.turnA {B : Nat} {w w' : World} {b : Nat} {z : Array Value} {a : Option Addr} {c : Nat} {l : List Int} (h : OI B w a c l) (hl : Like (fun k => k = b) w w') (hb : w.heap[b]? = some (.cells z 24)) : OI B w' a c l :=
  ownsRow_like h hl (own_other h hb (by decide))
theorem OV.turnA {w w' : World} {b : Nat} {z : Array Value} {a : Option Addr} {c : Nat} {l : List Vd} (h : OV w a c l) (hl : Like (fun k => k = b) w w') (hb : w.heap[b]? = some (.cells z 24)) : OV w' a c l :=
  ownsRow_like h hl (own_other h hb (by decide))
set_option maxRecDepth 100000 in
set_option maxHeartbeats 4000000 in
theorem settle_ok {B : Nat} (a : Arn) (la ha : Option Addr) (lc hc : Nat) (w : World) (hl : a.Left.length ≤ 1000000) (h1 : OI B w la lc a.Left) (h2 : OI B w ha hc a.Holds) (hne : a.Swept = true → a.Holds = [] → a.Left ≠ []) :
    Calls Try.prog 40 #[.agg #[.int .i64 (a).Members, .slice la (a).Left.length lc, .bool (a).Open, .int .i64 (a).Eager, .slice ha (a).Holds.length hc, .bool (a).Swept, .int .i64 (a).Winner, .bool (a).Done]] w fun x w' => ∃ u, x = .returned u ∧ Ext w w' ∧ ArF B (settle a) u w' := by
  by_cases hs : a.Swept = true ∧ a.Holds = []
  · obtain ⟨hs, hh⟩ := hs
    have hset : settle a = decideA a (a.Left.headD 0) := by simp [settle, hs, hh]
    rw [hset]
    obtain ⟨g, rfl, c0, hgl⟩ := h1.head (hne hs hh)
    have hq := Lib.hid fun w' (he : Ext w w') => dec_mk B a (a.Left.headD 0) (some ⟨g, 0, none⟩) ha lc hc w' hl (h1.rep.ext he)
    have hpos : 0 < a.Left.length := List.length_pos_iff.2 (hne hs hh)
    obtain ⟨q, hqd⟩ : ∃ q, q = decideA a (a.Left.headD 0) := ⟨_, rfl⟩
    obtain ⟨x0, hx0⟩ : ∃ x0, x0 = a.Left.headD 0 := ⟨_, rfl⟩
    obtain ⟨n, hn⟩ : ∃ n, n = a.Left.length := ⟨_, rfl⟩
    rw [← hqd] at hq ⊢
    rw [← hx0] at hq c0
    rw [← hn] at hq hpos hl ⊢
    have hhl : a.Holds.length = 0 := by rw [hh]; rfl
    rw [hs, hhl] at hq ⊢
    clear hqd hx0 hn hset hh hs hne hhl h1 h2
    go_enter Try.func40, Try.ntmps40
    go_wp2
    (refine wp_region_segs (fun i => if i = 5 then some (ArF B q, ArS q) else none) [([0, 1, 2, 3, 4], .m, 5)] [6, 7] [] [8, 9] (by kernel_rfl) (by kernel_rfl) (by simp only [List.map_cons, List.map_nil, List.filterMap_cons, List.filterMap_nil, List.getElem?_toArray, List.getElem?_cons_succ, List.getElem?_cons_zero]; try exact rfl) (by simp only [List.filterMap_cons, List.filterMap_nil, List.getElem?_toArray, List.getElem?_cons_succ, List.getElem?_cons_zero]; try exact rfl) (by simp only [List.filterMap_cons, List.filterMap_nil, List.getElem?_toArray, List.getElem?_cons_succ, List.getElem?_cons_zero]; try exact rfl) (by simp only [List.filterMap_cons, List.filterMap_nil, List.getElem?_toArray, List.getElem?_cons_succ, List.getElem?_cons_zero]; try exact rfl) (by decide) ?_)
    (refine sg_m ?_; (repeat (first | (refine ql_plain rfl rfl ?_; intro K hK; go_big_quiet_op; go_big_quiet_on) | (refine ql_nilCheck rfl rfl rfl ?_; intro K hK; simp only [Act.put, List.setIfInBounds_toArray, List.set_cons_succ, List.set_cons_zero]; go_big_quiet_on) | fail | (refine ql_skip rfl ?_; intro K hK; simp only [Act.put, List.setIfInBounds_toArray, List.set_cons_succ, List.set_cons_zero]; go_big_quiet_on))); refine ql_nil ?_)
    (refine sg_call (f := 36) (ArF B q) (ArS q) rfl (ArF.shp B q) (ArF.stable B q) (fun d => hq.out _ (by (repeat (first | exact Ext.refl _ | assumption | refine Ext.alloc ?_ _ | refine Ext.ext ?_ _ | refine Ext.drew ?_)))) (by simp only [List.getElem?_toArray, List.getElem?_cons_succ, List.getElem?_cons_zero]; try exact rfl) rfl rfl Try.func36 rfl (by kernel_rfl) rfl ?_; intro u hu hS K hK; obtain ⟨la', lc', ha', hc', va, vc, rfl⟩ := hS; simp only [Act.put, List.setIfInBounds_toArray, List.set_cons_succ, List.set_cons_zero]; refine hK _ ?_; clear hK K)
    (refine sg_last ?_; (repeat (first | (refine ql_plain rfl rfl ?_; intro K hK; go_big_quiet_op; go_big_quiet_on) | (refine ql_nilCheck rfl rfl rfl ?_; intro K hK; simp only [Act.put, List.setIfInBounds_toArray, List.set_cons_succ, List.set_cons_zero]; go_big_quiet_on) | fail | (refine ql_skip rfl ?_; intro K hK; simp only [Act.put, List.setIfInBounds_toArray, List.set_cons_succ, List.set_cons_zero]; go_big_quiet_on))); refine ql_nil ?_; (repeat (first | (refine pl_plain rfl rfl ?_; intro K hK; go_big_quiet_op; go_big_quiet_on) | (refine pl_nilCheck rfl rfl rfl ?_; intro K hK; simp only [Act.put, List.setIfInBounds_toArray, List.set_cons_succ, List.set_cons_zero]; go_big_quiet_on))); refine pl_nil ?_)
    rintro w1 ⟨d, rfl⟩ ⟨_, hf⟩
    obtain ⟨u1, u2, u3⟩ := ArF.use hf
    have hz : (((w.alloc (.cells #[.int .i64 a.Members, .slice (some ⟨g, 0, none⟩) n lc, .bool a.Open, .int .i64 a.Eager, .slice ha 0 hc, .bool true, .int .i64 a.Winner, .bool a.Done] 24)).alloc (.cells #[.int .i64 0, .slice none 0 0, .bool false, .int .i64 0, .slice none 0 0, .bool false, .int .i64 0, .bool false] 24)).ext d).heap[w.heap.size + 1]? = some (.cells #[.int .i64 0, .slice none 0 0, .bool false, .int .i64 0, .slice none 0 0, .bool false, .int .i64 0, .bool false] 24) := heap_ext1 (heap_new _ _ (by simp))
    have v1 := Lib.hid (u1.turnA (w' := ((w.alloc (.cells #[.int .i64 a.Members, .slice (some ⟨g, 0, none⟩) n lc, .bool a.Open, .int .i64 a.Eager, .slice ha 0 hc, .bool true, .int .i64 a.Winner, .bool a.Done] 24)).alloc (.cells #[.int .i64 (q.1).Members, .slice la' (q.1).Left.length lc', .bool (q.1).Open, .int .i64 (q.1).Eager, .slice ha' (q.1).Holds.length hc', .bool (q.1).Swept, .int .i64 (q.1).Winner, .bool (q.1).Done] 24)).ext d) (b := w.heap.size + 1) (by (repeat (first | exact Like.refl _ _ | refine Like.ext ?_ _ | refine Like.alloc ?_ _ | refine Like.swap ?_ (by simp <;> omega) _ _))) hz)
    have v2 := Lib.hid (u2.turnA (w' := ((w.alloc (.cells #[.int .i64 a.Members, .slice (some ⟨g, 0, none⟩) n lc, .bool a.Open, .int .i64 a.Eager, .slice ha 0 hc, .bool true, .int .i64 a.Winner, .bool a.Done] 24)).alloc (.cells #[.int .i64 (q.1).Members, .slice la' (q.1).Left.length lc', .bool (q.1).Open, .int .i64 (q.1).Eager, .slice ha' (q.1).Holds.length hc', .bool (q.1).Swept, .int .i64 (q.1).Winner, .bool (q.1).Done] 24)).ext d) (b := w.heap.size + 1) (by (repeat (first | exact Like.refl _ _ | refine Like.ext ?_ _ | refine Like.alloc ?_ _ | refine Like.swap ?_ (by simp <;> omega) _ _))) hz)
    have v3 := Lib.hid (u3.turnA (w' := ((w.alloc (.cells #[.int .i64 a.Members, .slice (some ⟨g, 0, none⟩) n lc, .bool a.Open, .int .i64 a.Eager, .slice ha 0 hc, .bool true, .int .i64 a.Winner, .bool a.Done] 24)).alloc (.cells #[.int .i64 (q.1).Members, .slice la' (q.1).Left.length lc', .bool (q.1).Open, .int .i64 (q.1).Eager, .slice ha' (q.1).Holds.length hc', .bool (q.1).Swept, .int .i64 (q.1).Winner, .bool (q.1).Done] 24)).ext d) (b := w.heap.size + 1) (by (repeat (first | exact Like.refl _ _ | refine Like.ext ?_ _ | refine Like.alloc ?_ _ | refine Like.swap ?_ (by simp <;> omega) _ _))) hz)
    clear hf u1 u2 u3 hz hq
    go_wp2; refine only_normal ?_
    go_wp2
    (refine bodyPost_ret (v := ?_) (by simp [results, Try.results40, go_sem]; rfl) rfl ?_)
    refine ⟨_, rfl, ?_, ⟨la', lc', ha', hc', va, vc, rfl, v1.out, v2.out, v3.out⟩⟩
    (repeat (first | exact Ext.refl _ | assumption | refine Ext.alloc ?_ _ | refine Ext.ext ?_ _ | refine Ext.drew ?_))
  · have hset : settle a = (a, []) := by
      unfold settle
      rw [if_neg]
      simp only [Bool.and_eq_true, decide_eq_true_eq, List.length_eq_zero_iff]
      exact hs
    rw [hset]
    obtain ⟨nl, hnl⟩ : ∃ n, n = a.Left.length := ⟨_, rfl⟩
    obtain ⟨nh, hnh⟩ : ∃ n, n = a.Holds.length := ⟨_, rfl⟩
    have hcase : (a.Swept = false) ∨ (a.Swept = true ∧ ((nh : Int) == 0) = false) := by
      cases hsw : a.Swept
      · exact .inl rfl
      · refine .inr ⟨rfl, ?_⟩
        have : a.Holds ≠ [] := fun h => hs ⟨hsw, h⟩
        have := List.length_pos_iff.2 this
        simp
        omega
    have hfin := Lib.hid fun w' (he : Ext w w') => (⟨h1.ext he, h2.ext he⟩ : OI B w' la lc a.Left ∧ OI B w' ha hc a.Holds)
    clear hs hset h1 h2 hne hl
    rw [← hnl, ← hnh]
    replace hnl := Lib.hid hnl
    replace hnh := Lib.hid hnh
    rcases hcase with hsw | ⟨hsw, hn0⟩
    all_goals
      go_enter Try.func40, Try.ntmps40
      go_wp2
      (refine bodyPost_ret (v := ?_) (by simp [results, Try.results40, go_sem]; rfl) rfl ?_)
      refine ⟨_, rfl, ?_, ⟨la, lc, ha, hc, none, 0, by rw [hnl.out, hnh.out]; simp [hsw], (hfin.out _ ?_).1, (hfin.out _ ?_).2, OV.nil _⟩⟩ <;> (repeat (first | exact Ext.refl _ | assumption | refine Ext.alloc ?_ _ | refine Ext.ext ?_ _ | refine Ext.drew ?_))
/-- what closed(a) makes of the list -/
theorem closed_eq (a : Arn) : closed a = (if a.Eager = -1 then (if a.Left.length = 0 then decideA { a with Open := false } (-1) else if a.Left.length = 1 then decideA { a with Open := false } (a.Left.headD 0) else ({ a with Open := false }, [])) else decideA { a with Open := false } a.Eager) := by
  unfold closed
  simp only
  split
  · split
    · rename_i h; simp [h]
    · rename_i x h; simp [h]
    · rename_i h1 h2
      have hlen : 2 ≤ a.Left.length := by
        match h : a.Left, h1, h2 with
        | [], h1, _ => exact absurd rfl h1
        | [x], _, h2 => exact absurd rfl (h2 x)
        | _ :: _ :: _, _, _ => simp
      rw [if_neg (by omega), if_neg (by omega)]
  · rfl
end Go.Proofs.Ytcnmljpabmgieaa.R
