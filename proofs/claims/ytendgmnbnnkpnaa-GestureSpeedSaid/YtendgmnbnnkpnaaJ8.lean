/- follow. -/
import Derived.Test.YtendgmnbnnkpnaaJ7
import Derived.WalkKit
import Derived.WalkSpells
import Derived.WalkLawsBesides
import Derived.Deep.QuietTactic
import Derived.BigQuiet
import Derived.BigRegion
import Derived.Lib.Hide
import Derived.Deep.RegionWith
set_option linter.unusedSimpArgs false
set_option linter.unusedVariables false
namespace Go
theorem lay3 {w0 w : World} {A O : Obj} {x y : Grow} (he : Ext w0 w) (hg : w.heap[w0.heap.size + x.size]? = some A) (hM : w.heap[w0.heap.size + x.size + 1 + y.size]? = some O) :
    ∃ x' y' z' : Grow, x.size = x'.size ∧ y.size = y'.size ∧ w = ((((w0.ext x').alloc A).ext y').alloc O).ext z' := by
  obtain ⟨d, z, h1, rfl⟩ := he.split hM (by omega)
  obtain ⟨x', y', z', h2, h3, h4⟩ := lay2 (w0 := w0) (w := ((w0.ext d).alloc O).ext z) (Ext.ext (Ext.refl _) z) hg (by omega) (by omega)
  exact ⟨x', y', z', by omega, by omega, h4⟩
end Go
namespace Go.Proofs.Ytendgmnbnnkpnaa.G
open Go.RowKit
theorem cellsS_append (l k : List Smp) : cellsS (l ++ k) = cellsS l ++ cellsS k := by
  induction l with
  | nil => rfl
  | cons s l ih => simp only [List.cons_append, cellsS, ih]
theorem cellsS_drop (l : List Smp) (k : Nat) : cellsS (l.drop k) = (cellsS l).drop (k * 3) := by
  induction k generalizing l with
  | zero => simp
  | succ k ih =>
    cases l with
    | nil => simp [cellsS]
    | cons s l =>
      rw [List.drop_succ_cons, ih, show (k + 1) * 3 = k * 3 + 1 + 1 + 1 by omega]
      simp only [cellsS, List.drop_succ_cons]
theorem smpIn_more {w : World} {B g c k : Nat} {l : List Smp} {x y z : Int} (h : w.ownsRow B 24 3 (.slice (some ⟨g, 0, none⟩) (l.length + 1) c) (l.length + 1) (cellsS l ++ [.int .i64 x, .int .i64 y, .int .i64 z])) (hk : k = l.length + 1 - 8) : SmpIn w g (k * 3) (more l ⟨x, y, z⟩) := by
  obtain ⟨cu, hcu, _⟩ := row_heap h
  obtain ⟨_, _, _, h4⟩ := row_cur h hcu
  refine ⟨cu, _, hcu, fun j u hu => cur_get h4 ?_⟩
  have e : cellsS l ++ [.int .i64 x, .int .i64 y, .int .i64 z] = cellsS (l ++ [(⟨x, y, z⟩ : Smp)]) := (cellsS_append l [⟨x, y, z⟩]).symm
  have e2 : more l ⟨x, y, z⟩ = (l ++ [(⟨x, y, z⟩ : Smp)]).drop k := by rw [hk, more]; simp
  rw [e2, cellsS_drop, List.getElem?_drop] at hu
  rw [e]; exact hu
set_option maxHeartbeats 1000000 in
theorem follow_core (w0 : World) (x y z : Grow) (cur : Array Value) (c : Nat) (r : Rec) (e : Ev) (i nT : Nat) (xs : List Value) (t : Tch) (g gc : Nat) (h1 : TOk t) (hl : r.Ts.length = nT) (hi : (i = 0 ∧ nT = 1) ∨ (i = 0 ∧ nT = 2) ∨ (i = 1 ∧ nT = 2))
    (hx4 : xs[i * 5 + 4]? = some (.slice (some ⟨g, 0, none⟩) t.S.length gc)) (W : World) (hW : W = ((((w0.ext x).alloc (.cells cur 64)).ext y).alloc (.cells #[.int .i64 (r).Kind, .int .i64 (r).Node, .int .i64 (r).State, .int .i64 (r).Count, .slice (some ⟨w0.heap.size + x.size, 0, none⟩) (r).Ts.length c, .int .i64 (r).L.X, .int .i64 (r).L.Y, .int .i64 (r).L.T, .int .i64 (e).Kind, .int .i64 (e).ID, .int .i64 (e).X, .int .i64 (e).Y, .int .i64 (e).Time, .int .i64 (e).Wheel, .int .i64 0, .slice none 0 0] 82)).ext z)
    (hrow : W.ownsRow w0.heap.size 64 5 (.slice (some ⟨w0.heap.size + x.size, 0, none⟩) nT c) nT xs) (hs : OwnS W w0.heap.size g gc t.S) :
    Calls Try.prog 60 #[.pointer (some ⟨w0.heap.size + x.size + 1 + y.size, 0, none⟩), .int .i64 i] W fun v w' => v = .returned (.tuple #[]) ∧
      ∃ (x' y' : Grow) (g2 k c2 : Nat) (cur' : Array Value), x.size = x'.size ∧ y.size = y'.size ∧ Ext ((((w0.ext x').alloc (.cells cur' 64)).ext y').alloc (.cells #[.int .i64 (r).Kind, .int .i64 (r).Node, .int .i64 (r).State, .int .i64 (r).Count, .slice (some ⟨w0.heap.size + x.size, 0, none⟩) (r).Ts.length c, .int .i64 (r).L.X, .int .i64 (r).L.Y, .int .i64 (r).L.T, .int .i64 (e).Kind, .int .i64 (e).ID, .int .i64 (e).X, .int .i64 (e).Y, .int .i64 (e).Time, .int .i64 (e).Wheel, .int .i64 0, .slice none 0 0] 82)) w' ∧
      w'.ownsRow w0.heap.size 64 5 (.slice (some ⟨w0.heap.size + x.size, 0, none⟩) nT c) nT (xs.set (i * 5 + 4) (.slice (some ⟨g2, k * 3, none⟩) (more t.S (smp e)).length c2)) ∧ SmpIn w' g2 (k * 3) (more t.S (smp e)) ∧
      ∀ h cu fr, W.heap[h]? = some (.cells cu 24 fr) → h ≠ g → w'.heap[h]? = some (.cells cu 24 fr) := by
  obtain ⟨q1, q2, q3, q4⟩ := row_cur (cur := cur) hrow (by rw [hW]; exact heap_at w0 x _ (by (repeat (first | exact Ext.refl _ | assumption | refine Ext.alloc ?_ _ | refine Ext.ext ?_ _ | refine Ext.drew ?_))))
  have p4 := cur_get q4 hx4
  have hpos : 0 < t.S.length := List.length_pos_iff.2 h1.ne
  have hn8 := h1.len
  replace q1 := Lib.hid q1
  replace q4 := Lib.hid q4
  have hE : Hid (Ext w0 W) := by
    rw [hW]
    show Ext _ _
    (repeat (first | exact Ext.refl _ | assumption | refine Ext.alloc ?_ _ | refine Ext.ext ?_ _ | refine Ext.drew ?_))
  have hM : Hid (W.heap[w0.heap.size + x.size + 1 + y.size]? = some (.cells #[.int .i64 (r).Kind, .int .i64 (r).Node, .int .i64 (r).State, .int .i64 (r).Count, .slice (some ⟨w0.heap.size + x.size, 0, none⟩) (r).Ts.length c, .int .i64 (r).L.X, .int .i64 (r).L.Y, .int .i64 (r).L.T, .int .i64 (e).Kind, .int .i64 (e).ID, .int .i64 (e).X, .int .i64 (e).Y, .int .i64 (e).Time, .int .i64 (e).Wheel, .int .i64 0, .slice none 0 0] 82)) := by
    rw [hW]
    refine heap_at' ((w0.ext x).alloc _) y _ ?_ (by (repeat (first | exact Ext.refl _ | assumption | refine Ext.alloc ?_ _ | refine Ext.ext ?_ _ | refine Ext.drew ?_)))
    simp only [World.size_ext, World.size_alloc]
  have hB : Hid (W.heap[w0.heap.size + x.size]? = some (.cells cur 64)) := by
    rw [hW]
    exact heap_at w0 x _ (by (repeat (first | exact Ext.refl _ | assumption | refine Ext.alloc ?_ _ | refine Ext.ext ?_ _ | refine Ext.drew ?_)))
  replace hrow := Lib.hid hrow
  replace hs := Lib.hid hs
  have hkeep : Hid (∀ (w1 w2 : World), Ext W w1 → w1.grownBy w2 (some g) → ∀ h cu fr, W.heap[h]? = some (.cells cu 24 fr) → h ≠ g → w2.heap[h]? = some (.cells cu 24 fr)) := fun w1 w2 he hg h cu fr hh hne => heap_grown hg (heap_some_ext hh he) (fun k hk => by simp only [Option.some.injEq] at hk; omega)
  rcases hi with ⟨rfl, rfl⟩ | ⟨rfl, rfl⟩ | ⟨rfl, rfl⟩
  focus
    rw [hl] at hW hM ⊢
    simp only [Nat.zero_mul, Nat.zero_add, Nat.one_mul, Nat.reduceAdd] at p4 hx4 ⊢
    replace hl := Lib.hid hl
    subst hW
    go_enter Try.func60, Try.ntmps60
    go_wp2
    (refine wp_region_calm_ops [1, 2, 3, 4, 5, 6, 7, 8, 9] [10] [0] [11, 12, 13, 14] (by kernel_rfl) (by kernel_rfl) (by simp only [List.filterMap_cons, List.filterMap_nil, List.getElem?_toArray, List.getElem?_cons_succ, List.getElem?_cons_zero]; try exact rfl) (by simp only [List.filterMap_cons, List.filterMap_nil, List.getElem?_toArray, List.getElem?_cons_succ, List.getElem?_cons_zero]; try exact rfl) (by simp only [List.filterMap_cons, List.filterMap_nil, List.getElem?_toArray, List.getElem?_cons_succ, List.getElem?_cons_zero]; try exact rfl) ?_; (repeat (first | (refine ql_plain rfl rfl ?_; intro K hK; go_big_quiet_op; go_big_quiet_on) | (refine ql_nilCheck rfl rfl rfl ?_; intro K hK; simp only [Act.put, List.setIfInBounds_toArray, List.set_cons_succ, List.set_cons_zero]; go_big_quiet_on) | (refine ql_call (fun _ => (sample_any _ _ _ _ _ _ _)) rfl rfl Try.func53 rfl (by kernel_rfl) rfl ?_; intro K hK; simp only [Act.put, List.setIfInBounds_toArray, List.set_cons_succ, List.set_cons_zero]; go_big_quiet_on) | (refine ql_skip rfl ?_; intro K hK; simp only [Act.put, List.setIfInBounds_toArray, List.set_cons_succ, List.set_cons_zero]; go_big_quiet_on))); refine ql_nil ?_)
    refine mw1 (mk_sl (.cells #[.int .i64 e.X, .int .i64 e.Y, .int .i64 e.Time] 24) 1 (by simp only [List.getElem?_toArray, List.getElem?_cons_succ, List.getElem?_cons_zero]; try exact rfl) rfl (fun d => by go_simp)) ?_; intro u1 hu1 K hK; simp only [Act.put, List.setIfInBounds_toArray, List.set_cons_succ, List.set_cons_zero, List.getElem?_toArray, List.getElem?_cons_succ, List.getElem?_cons_zero, Option.bind_some]; refine hK _ ?_; clear hK K; (repeat (first | (refine pl_plain rfl rfl ?_; intro K hK; go_big_quiet_op; go_big_quiet_on) | (refine pl_nilCheck rfl rfl rfl ?_; intro K hK; simp only [Act.put, List.setIfInBounds_toArray, List.set_cons_succ, List.set_cons_zero]; go_big_quiet_on))); refine pl_nil ?_; rintro w1 he1 ⟨_, hf1⟩
    obtain ⟨b1, rfl, hf⟩ := hf1
    obtain ⟨d3, rfl⟩ := he1
    have hat := Lib.hid (cells_at0 hf rfl)
    clear hf
    refine wpList_append_row _ _ _ 57 24 _ 3 24 infoS Try.underlying57 rfl (by decide) w0.heap.size _ t.S.length (cellsS t.S) (ownsRow_ext hs.out (by (repeat (first | exact Ext.refl _ | assumption | refine Ext.alloc ?_ _ | refine Ext.ext ?_ _ | refine Ext.drew ?_)))) ⟨b1, 0, none⟩ 1 1 [.int .i64 e.X, .int .i64 e.Y, .int .i64 e.Time] (by decide) rfl hat.out (by simp [Value.oneCell']) (by unfold maxLen; omega) (by omega) (by simp <;> omega) rfl rfl rfl rfl ?_
    intro g2 c2 w2 hown2 hg2
    have hM2 := heap_grown hg2 (heap_some_ext hM.out (by (repeat (first | exact Ext.refl _ | assumption | refine Ext.alloc ?_ _ | refine Ext.ext ?_ _ | refine Ext.drew ?_)))) (own_ne' hs.out hM.out (by decide))
    have hB2 := heap_grown hg2 (heap_some_ext hB.out (by (repeat (first | exact Ext.refl _ | assumption | refine Ext.alloc ?_ _ | refine Ext.ext ?_ _ | refine Ext.drew ?_)))) (own_ne' hs.out hB.out (by decide))
    have hE2 := Ext.of_grown (hE.out.trans (by (repeat (first | exact Ext.refl _ | assumption | refine Ext.alloc ?_ _ | refine Ext.ext ?_ _ | refine Ext.drew ?_)))) hg2 (fun k hk => (hs.out.lt k hk).1)
    have hk2 := Lib.hid (hkeep.out _ _ (by (repeat (first | exact Ext.refl _ | assumption | refine Ext.alloc ?_ _ | refine Ext.ext ?_ _ | refine Ext.drew ?_))) hg2)
    obtain ⟨_, hc2, hm2, _⟩ : True ∧ t.S.length + 1 ≤ c2 ∧ c2 ≤ maxLen ∧ True := by
      obtain ⟨cu, hcu, _⟩ := row_heap hown2
      obtain ⟨_, h2, h3, _⟩ := row_cur hown2 hcu
      exact ⟨trivial, h2, h3, trivial⟩
    obtain ⟨x', y', z', hx, hy, hw2⟩ := lay3 hE2 hB2 hM2
    rw [hx] at hw2
    subst hw2
    replace hown2 := Lib.hid hown2
    clear hM2 hB2 hE2 hg2 hat hM hB hE hs hkeep
    simp only [hx, hy]
    go_wp2; refine only_normal ?_
    have g4 : (cur.setIfInBounds 4 (.slice (some ⟨g2, 0, none⟩) (t.S.length + 1) c2))[4]? = some (.slice (some ⟨g2, 0, none⟩) (t.S.length + 1) c2) := get_set_same _ _ _ (by have := q1.out; omega)
    obtain ⟨k, hkd⟩ : ∃ k, k = t.S.length + 1 - 8 := ⟨_, rfl⟩
    have hk : mx 0 ((t.S.length : Int) + 1 - 8) = (k : Int) := by unfold mx; split <;> omega
    have hk1 : (k : Int) ≤ (t.S.length : Int) + 1 := by omega
    have hk3 : ¬ c2 = k := by omega
    have hml : t.S.length + 1 - k = (more t.S (smp e)).length := by simp [more]; omega
    replace hkd := Lib.hid hkd
    replace hml := Lib.hid hml
    go_wp2_with fail
    (refine wp_region_calm_ops [0, 1, 2, 3, 4, 5, 6, 7, 8, 9, 10, 11, 12, 13, 14] [] [] [15] (by kernel_rfl) (by kernel_rfl) (by simp only [List.filterMap_cons, List.filterMap_nil, List.getElem?_toArray, List.getElem?_cons_succ, List.getElem?_cons_zero]; try exact rfl) (by simp only [List.filterMap_cons, List.filterMap_nil, List.getElem?_toArray, List.getElem?_cons_succ, List.getElem?_cons_zero]; try exact rfl) (by simp only [List.filterMap_cons, List.filterMap_nil, List.getElem?_toArray, List.getElem?_cons_succ, List.getElem?_cons_zero]; try exact rfl) ?_; (repeat (first | (refine ql_plain rfl rfl ?_; intro K hK; go_big_quiet_op; go_big_quiet_on) | (refine ql_nilCheck rfl rfl rfl ?_; intro K hK; simp only [Act.put, List.setIfInBounds_toArray, List.set_cons_succ, List.set_cons_zero]; go_big_quiet_on) | fail | (refine ql_skip rfl ?_; intro K hK; simp only [Act.put, List.setIfInBounds_toArray, List.set_cons_succ, List.set_cons_zero]; go_big_quiet_on))); refine ql_nil ?_)
    refine mw0 ?_; (repeat (first | (refine pl_plain rfl rfl ?_; intro K hK; go_big_quiet_op; go_big_quiet_on) | (refine pl_nilCheck rfl rfl rfl ?_; intro K hK; simp only [Act.put, List.setIfInBounds_toArray, List.set_cons_succ, List.set_cons_zero]; go_big_quiet_on))); refine pl_nil ?_; rintro w1 ⟨d1, rfl⟩ -
    go_wp2; refine only_normal ?_
    go_wp2
    (first | (refine bodyPost_end (results_none rfl _ _ _) rfl ?_) | (refine bodyPost_ret (results_none rfl _ _ _) rfl ?_))
    rw [hml.out]
    refine ⟨rfl, x', y', g2, k, c2 - k, cur.setIfInBounds 4 (.slice (some ⟨g2, k * 3, none⟩) (more t.S (smp e)).length (c2 - k)), hx, hy, ?_, ?_, ?_, ?_⟩
    · rw [hx]; (repeat (first | exact Ext.refl _ | assumption | refine Ext.alloc ?_ _ | refine Ext.ext ?_ _ | refine Ext.drew ?_))
    · rw [hx]
      refine own_join (W := w0) (d := x') (cur := cur.setIfInBounds 4 (.slice (some ⟨g2, k * 3, none⟩) (more t.S (smp e)).length (c2 - k))) (by (repeat (first | exact Ext.refl _ | assumption | refine Ext.alloc ?_ _ | refine Ext.ext ?_ _ | refine Ext.drew ?_))) rfl (by omega) (by rw [Array.size_setIfInBounds]; exact q1.out) q2 q3 ?_
      rw [Array.toList_setIfInBounds, List.take_set, q4.out]
    · exact (SmpIn.like (S := fun k => k = w0.heap.size + x'.size) (e' := 64) (by decide) (smpIn_more hown2.out hkd.out) (by (repeat (first | exact Like.refl _ _ | refine Like.ext ?_ _ | refine Like.alloc ?_ _ | refine Like.swap ?_ (by simp <;> omega) _ _))) (fun b hb => ⟨_, _, hb ▸ heap_at w0 x' _ (by (repeat (first | exact Ext.refl _ | assumption | refine Ext.alloc ?_ _ | refine Ext.ext ?_ _ | refine Ext.drew ?_)))⟩)).ext (Ext.ext (Ext.refl _) d1)
    · intro h cu fr hh hne
      have h3 := hk2.out h cu fr hh hne
      have h4 : h ≠ w0.heap.size + x'.size := by
        rintro rfl
        rw [heap_at w0 x' _ (by (repeat (first | exact Ext.refl _ | assumption | refine Ext.alloc ?_ _ | refine Ext.ext ?_ _ | refine Ext.drew ?_)))] at h3
        cases h3
      exact heap_some_ext ((Like.heap (S := fun k => k = w0.heap.size + x'.size) (by (repeat (first | exact Like.refl _ _ | refine Like.ext ?_ _ | refine Like.alloc ?_ _ | refine Like.swap ?_ (by simp <;> omega) _ _))) h h4).trans h3) (Ext.ext (Ext.refl _) d1)
  focus
    rw [hl] at hW hM ⊢
    simp only [Nat.zero_mul, Nat.zero_add, Nat.one_mul, Nat.reduceAdd] at p4 hx4 ⊢
    replace hl := Lib.hid hl
    subst hW
    go_enter Try.func60, Try.ntmps60
    go_wp2
    (refine wp_region_calm_ops [1, 2, 3, 4, 5, 6, 7, 8, 9] [10] [0] [11, 12, 13, 14] (by kernel_rfl) (by kernel_rfl) (by simp only [List.filterMap_cons, List.filterMap_nil, List.getElem?_toArray, List.getElem?_cons_succ, List.getElem?_cons_zero]; try exact rfl) (by simp only [List.filterMap_cons, List.filterMap_nil, List.getElem?_toArray, List.getElem?_cons_succ, List.getElem?_cons_zero]; try exact rfl) (by simp only [List.filterMap_cons, List.filterMap_nil, List.getElem?_toArray, List.getElem?_cons_succ, List.getElem?_cons_zero]; try exact rfl) ?_; (repeat (first | (refine ql_plain rfl rfl ?_; intro K hK; go_big_quiet_op; go_big_quiet_on) | (refine ql_nilCheck rfl rfl rfl ?_; intro K hK; simp only [Act.put, List.setIfInBounds_toArray, List.set_cons_succ, List.set_cons_zero]; go_big_quiet_on) | (refine ql_call (fun _ => (sample_any _ _ _ _ _ _ _)) rfl rfl Try.func53 rfl (by kernel_rfl) rfl ?_; intro K hK; simp only [Act.put, List.setIfInBounds_toArray, List.set_cons_succ, List.set_cons_zero]; go_big_quiet_on) | (refine ql_skip rfl ?_; intro K hK; simp only [Act.put, List.setIfInBounds_toArray, List.set_cons_succ, List.set_cons_zero]; go_big_quiet_on))); refine ql_nil ?_)
    refine mw1 (mk_sl (.cells #[.int .i64 e.X, .int .i64 e.Y, .int .i64 e.Time] 24) 1 (by simp only [List.getElem?_toArray, List.getElem?_cons_succ, List.getElem?_cons_zero]; try exact rfl) rfl (fun d => by go_simp)) ?_; intro u1 hu1 K hK; simp only [Act.put, List.setIfInBounds_toArray, List.set_cons_succ, List.set_cons_zero, List.getElem?_toArray, List.getElem?_cons_succ, List.getElem?_cons_zero, Option.bind_some]; refine hK _ ?_; clear hK K; (repeat (first | (refine pl_plain rfl rfl ?_; intro K hK; go_big_quiet_op; go_big_quiet_on) | (refine pl_nilCheck rfl rfl rfl ?_; intro K hK; simp only [Act.put, List.setIfInBounds_toArray, List.set_cons_succ, List.set_cons_zero]; go_big_quiet_on))); refine pl_nil ?_; rintro w1 he1 ⟨_, hf1⟩
    obtain ⟨b1, rfl, hf⟩ := hf1
    obtain ⟨d3, rfl⟩ := he1
    have hat := Lib.hid (cells_at0 hf rfl)
    clear hf
    refine wpList_append_row _ _ _ 57 24 _ 3 24 infoS Try.underlying57 rfl (by decide) w0.heap.size _ t.S.length (cellsS t.S) (ownsRow_ext hs.out (by (repeat (first | exact Ext.refl _ | assumption | refine Ext.alloc ?_ _ | refine Ext.ext ?_ _ | refine Ext.drew ?_)))) ⟨b1, 0, none⟩ 1 1 [.int .i64 e.X, .int .i64 e.Y, .int .i64 e.Time] (by decide) rfl hat.out (by simp [Value.oneCell']) (by unfold maxLen; omega) (by omega) (by simp <;> omega) rfl rfl rfl rfl ?_
    intro g2 c2 w2 hown2 hg2
    have hM2 := heap_grown hg2 (heap_some_ext hM.out (by (repeat (first | exact Ext.refl _ | assumption | refine Ext.alloc ?_ _ | refine Ext.ext ?_ _ | refine Ext.drew ?_)))) (own_ne' hs.out hM.out (by decide))
    have hB2 := heap_grown hg2 (heap_some_ext hB.out (by (repeat (first | exact Ext.refl _ | assumption | refine Ext.alloc ?_ _ | refine Ext.ext ?_ _ | refine Ext.drew ?_)))) (own_ne' hs.out hB.out (by decide))
    have hE2 := Ext.of_grown (hE.out.trans (by (repeat (first | exact Ext.refl _ | assumption | refine Ext.alloc ?_ _ | refine Ext.ext ?_ _ | refine Ext.drew ?_)))) hg2 (fun k hk => (hs.out.lt k hk).1)
    have hk2 := Lib.hid (hkeep.out _ _ (by (repeat (first | exact Ext.refl _ | assumption | refine Ext.alloc ?_ _ | refine Ext.ext ?_ _ | refine Ext.drew ?_))) hg2)
    obtain ⟨_, hc2, hm2, _⟩ : True ∧ t.S.length + 1 ≤ c2 ∧ c2 ≤ maxLen ∧ True := by
      obtain ⟨cu, hcu, _⟩ := row_heap hown2
      obtain ⟨_, h2, h3, _⟩ := row_cur hown2 hcu
      exact ⟨trivial, h2, h3, trivial⟩
    obtain ⟨x', y', z', hx, hy, hw2⟩ := lay3 hE2 hB2 hM2
    rw [hx] at hw2
    subst hw2
    replace hown2 := Lib.hid hown2
    clear hM2 hB2 hE2 hg2 hat hM hB hE hs hkeep
    simp only [hx, hy]
    go_wp2; refine only_normal ?_
    have g4 : (cur.setIfInBounds 4 (.slice (some ⟨g2, 0, none⟩) (t.S.length + 1) c2))[4]? = some (.slice (some ⟨g2, 0, none⟩) (t.S.length + 1) c2) := get_set_same _ _ _ (by have := q1.out; omega)
    obtain ⟨k, hkd⟩ : ∃ k, k = t.S.length + 1 - 8 := ⟨_, rfl⟩
    have hk : mx 0 ((t.S.length : Int) + 1 - 8) = (k : Int) := by unfold mx; split <;> omega
    have hk1 : (k : Int) ≤ (t.S.length : Int) + 1 := by omega
    have hk3 : ¬ c2 = k := by omega
    have hml : t.S.length + 1 - k = (more t.S (smp e)).length := by simp [more]; omega
    replace hkd := Lib.hid hkd
    replace hml := Lib.hid hml
    go_wp2_with fail
    (refine wp_region_calm_ops [0, 1, 2, 3, 4, 5, 6, 7, 8, 9, 10, 11, 12, 13, 14] [] [] [15] (by kernel_rfl) (by kernel_rfl) (by simp only [List.filterMap_cons, List.filterMap_nil, List.getElem?_toArray, List.getElem?_cons_succ, List.getElem?_cons_zero]; try exact rfl) (by simp only [List.filterMap_cons, List.filterMap_nil, List.getElem?_toArray, List.getElem?_cons_succ, List.getElem?_cons_zero]; try exact rfl) (by simp only [List.filterMap_cons, List.filterMap_nil, List.getElem?_toArray, List.getElem?_cons_succ, List.getElem?_cons_zero]; try exact rfl) ?_; (repeat (first | (refine ql_plain rfl rfl ?_; intro K hK; go_big_quiet_op; go_big_quiet_on) | (refine ql_nilCheck rfl rfl rfl ?_; intro K hK; simp only [Act.put, List.setIfInBounds_toArray, List.set_cons_succ, List.set_cons_zero]; go_big_quiet_on) | fail | (refine ql_skip rfl ?_; intro K hK; simp only [Act.put, List.setIfInBounds_toArray, List.set_cons_succ, List.set_cons_zero]; go_big_quiet_on))); refine ql_nil ?_)
    refine mw0 ?_; (repeat (first | (refine pl_plain rfl rfl ?_; intro K hK; go_big_quiet_op; go_big_quiet_on) | (refine pl_nilCheck rfl rfl rfl ?_; intro K hK; simp only [Act.put, List.setIfInBounds_toArray, List.set_cons_succ, List.set_cons_zero]; go_big_quiet_on))); refine pl_nil ?_; rintro w1 ⟨d1, rfl⟩ -
    go_wp2; refine only_normal ?_
    go_wp2
    (first | (refine bodyPost_end (results_none rfl _ _ _) rfl ?_) | (refine bodyPost_ret (results_none rfl _ _ _) rfl ?_))
    rw [hml.out]
    refine ⟨rfl, x', y', g2, k, c2 - k, cur.setIfInBounds 4 (.slice (some ⟨g2, k * 3, none⟩) (more t.S (smp e)).length (c2 - k)), hx, hy, ?_, ?_, ?_, ?_⟩
    · rw [hx]; (repeat (first | exact Ext.refl _ | assumption | refine Ext.alloc ?_ _ | refine Ext.ext ?_ _ | refine Ext.drew ?_))
    · rw [hx]
      refine own_join (W := w0) (d := x') (cur := cur.setIfInBounds 4 (.slice (some ⟨g2, k * 3, none⟩) (more t.S (smp e)).length (c2 - k))) (by (repeat (first | exact Ext.refl _ | assumption | refine Ext.alloc ?_ _ | refine Ext.ext ?_ _ | refine Ext.drew ?_))) rfl (by omega) (by rw [Array.size_setIfInBounds]; exact q1.out) q2 q3 ?_
      rw [Array.toList_setIfInBounds, List.take_set, q4.out]
    · exact (SmpIn.like (S := fun k => k = w0.heap.size + x'.size) (e' := 64) (by decide) (smpIn_more hown2.out hkd.out) (by (repeat (first | exact Like.refl _ _ | refine Like.ext ?_ _ | refine Like.alloc ?_ _ | refine Like.swap ?_ (by simp <;> omega) _ _))) (fun b hb => ⟨_, _, hb ▸ heap_at w0 x' _ (by (repeat (first | exact Ext.refl _ | assumption | refine Ext.alloc ?_ _ | refine Ext.ext ?_ _ | refine Ext.drew ?_)))⟩)).ext (Ext.ext (Ext.refl _) d1)
    · intro h cu fr hh hne
      have h3 := hk2.out h cu fr hh hne
      have h4 : h ≠ w0.heap.size + x'.size := by
        rintro rfl
        rw [heap_at w0 x' _ (by (repeat (first | exact Ext.refl _ | assumption | refine Ext.alloc ?_ _ | refine Ext.ext ?_ _ | refine Ext.drew ?_)))] at h3
        cases h3
      exact heap_some_ext ((Like.heap (S := fun k => k = w0.heap.size + x'.size) (by (repeat (first | exact Like.refl _ _ | refine Like.ext ?_ _ | refine Like.alloc ?_ _ | refine Like.swap ?_ (by simp <;> omega) _ _))) h h4).trans h3) (Ext.ext (Ext.refl _) d1)
  focus
    rw [hl] at hW hM ⊢
    simp only [Nat.zero_mul, Nat.zero_add, Nat.one_mul, Nat.reduceAdd] at p4 hx4 ⊢
    replace hl := Lib.hid hl
    subst hW
    go_enter Try.func60, Try.ntmps60
    go_wp2
    (refine wp_region_calm_ops [1, 2, 3, 4, 5, 6, 7, 8, 9] [10] [0] [11, 12, 13, 14] (by kernel_rfl) (by kernel_rfl) (by simp only [List.filterMap_cons, List.filterMap_nil, List.getElem?_toArray, List.getElem?_cons_succ, List.getElem?_cons_zero]; try exact rfl) (by simp only [List.filterMap_cons, List.filterMap_nil, List.getElem?_toArray, List.getElem?_cons_succ, List.getElem?_cons_zero]; try exact rfl) (by simp only [List.filterMap_cons, List.filterMap_nil, List.getElem?_toArray, List.getElem?_cons_succ, List.getElem?_cons_zero]; try exact rfl) ?_; (repeat (first | (refine ql_plain rfl rfl ?_; intro K hK; go_big_quiet_op; go_big_quiet_on) | (refine ql_nilCheck rfl rfl rfl ?_; intro K hK; simp only [Act.put, List.setIfInBounds_toArray, List.set_cons_succ, List.set_cons_zero]; go_big_quiet_on) | (refine ql_call (fun _ => (sample_any _ _ _ _ _ _ _)) rfl rfl Try.func53 rfl (by kernel_rfl) rfl ?_; intro K hK; simp only [Act.put, List.setIfInBounds_toArray, List.set_cons_succ, List.set_cons_zero]; go_big_quiet_on) | (refine ql_skip rfl ?_; intro K hK; simp only [Act.put, List.setIfInBounds_toArray, List.set_cons_succ, List.set_cons_zero]; go_big_quiet_on))); refine ql_nil ?_)
    refine mw1 (mk_sl (.cells #[.int .i64 e.X, .int .i64 e.Y, .int .i64 e.Time] 24) 1 (by simp only [List.getElem?_toArray, List.getElem?_cons_succ, List.getElem?_cons_zero]; try exact rfl) rfl (fun d => by go_simp)) ?_; intro u1 hu1 K hK; simp only [Act.put, List.setIfInBounds_toArray, List.set_cons_succ, List.set_cons_zero, List.getElem?_toArray, List.getElem?_cons_succ, List.getElem?_cons_zero, Option.bind_some]; refine hK _ ?_; clear hK K; (repeat (first | (refine pl_plain rfl rfl ?_; intro K hK; go_big_quiet_op; go_big_quiet_on) | (refine pl_nilCheck rfl rfl rfl ?_; intro K hK; simp only [Act.put, List.setIfInBounds_toArray, List.set_cons_succ, List.set_cons_zero]; go_big_quiet_on))); refine pl_nil ?_; rintro w1 he1 ⟨_, hf1⟩
    obtain ⟨b1, rfl, hf⟩ := hf1
    obtain ⟨d3, rfl⟩ := he1
    have hat := Lib.hid (cells_at0 hf rfl)
    clear hf
    refine wpList_append_row _ _ _ 57 24 _ 3 24 infoS Try.underlying57 rfl (by decide) w0.heap.size _ t.S.length (cellsS t.S) (ownsRow_ext hs.out (by (repeat (first | exact Ext.refl _ | assumption | refine Ext.alloc ?_ _ | refine Ext.ext ?_ _ | refine Ext.drew ?_)))) ⟨b1, 0, none⟩ 1 1 [.int .i64 e.X, .int .i64 e.Y, .int .i64 e.Time] (by decide) rfl hat.out (by simp [Value.oneCell']) (by unfold maxLen; omega) (by omega) (by simp <;> omega) rfl rfl rfl rfl ?_
    intro g2 c2 w2 hown2 hg2
    have hM2 := heap_grown hg2 (heap_some_ext hM.out (by (repeat (first | exact Ext.refl _ | assumption | refine Ext.alloc ?_ _ | refine Ext.ext ?_ _ | refine Ext.drew ?_)))) (own_ne' hs.out hM.out (by decide))
    have hB2 := heap_grown hg2 (heap_some_ext hB.out (by (repeat (first | exact Ext.refl _ | assumption | refine Ext.alloc ?_ _ | refine Ext.ext ?_ _ | refine Ext.drew ?_)))) (own_ne' hs.out hB.out (by decide))
    have hE2 := Ext.of_grown (hE.out.trans (by (repeat (first | exact Ext.refl _ | assumption | refine Ext.alloc ?_ _ | refine Ext.ext ?_ _ | refine Ext.drew ?_)))) hg2 (fun k hk => (hs.out.lt k hk).1)
    have hk2 := Lib.hid (hkeep.out _ _ (by (repeat (first | exact Ext.refl _ | assumption | refine Ext.alloc ?_ _ | refine Ext.ext ?_ _ | refine Ext.drew ?_))) hg2)
    obtain ⟨_, hc2, hm2, _⟩ : True ∧ t.S.length + 1 ≤ c2 ∧ c2 ≤ maxLen ∧ True := by
      obtain ⟨cu, hcu, _⟩ := row_heap hown2
      obtain ⟨_, h2, h3, _⟩ := row_cur hown2 hcu
      exact ⟨trivial, h2, h3, trivial⟩
    obtain ⟨x', y', z', hx, hy, hw2⟩ := lay3 hE2 hB2 hM2
    rw [hx] at hw2
    subst hw2
    replace hown2 := Lib.hid hown2
    clear hM2 hB2 hE2 hg2 hat hM hB hE hs hkeep
    simp only [hx, hy]
    go_wp2; refine only_normal ?_
    have g4 : (cur.setIfInBounds 9 (.slice (some ⟨g2, 0, none⟩) (t.S.length + 1) c2))[9]? = some (.slice (some ⟨g2, 0, none⟩) (t.S.length + 1) c2) := get_set_same _ _ _ (by have := q1.out; omega)
    obtain ⟨k, hkd⟩ : ∃ k, k = t.S.length + 1 - 8 := ⟨_, rfl⟩
    have hk : mx 0 ((t.S.length : Int) + 1 - 8) = (k : Int) := by unfold mx; split <;> omega
    have hk1 : (k : Int) ≤ (t.S.length : Int) + 1 := by omega
    have hk3 : ¬ c2 = k := by omega
    have hml : t.S.length + 1 - k = (more t.S (smp e)).length := by simp [more]; omega
    replace hkd := Lib.hid hkd
    replace hml := Lib.hid hml
    go_wp2_with fail
    (refine wp_region_calm_ops [0, 1, 2, 3, 4, 5, 6, 7, 8, 9, 10, 11, 12, 13, 14] [] [] [15] (by kernel_rfl) (by kernel_rfl) (by simp only [List.filterMap_cons, List.filterMap_nil, List.getElem?_toArray, List.getElem?_cons_succ, List.getElem?_cons_zero]; try exact rfl) (by simp only [List.filterMap_cons, List.filterMap_nil, List.getElem?_toArray, List.getElem?_cons_succ, List.getElem?_cons_zero]; try exact rfl) (by simp only [List.filterMap_cons, List.filterMap_nil, List.getElem?_toArray, List.getElem?_cons_succ, List.getElem?_cons_zero]; try exact rfl) ?_; (repeat (first | (refine ql_plain rfl rfl ?_; intro K hK; go_big_quiet_op; go_big_quiet_on) | (refine ql_nilCheck rfl rfl rfl ?_; intro K hK; simp only [Act.put, List.setIfInBounds_toArray, List.set_cons_succ, List.set_cons_zero]; go_big_quiet_on) | fail | (refine ql_skip rfl ?_; intro K hK; simp only [Act.put, List.setIfInBounds_toArray, List.set_cons_succ, List.set_cons_zero]; go_big_quiet_on))); refine ql_nil ?_)
    refine mw0 ?_; (repeat (first | (refine pl_plain rfl rfl ?_; intro K hK; go_big_quiet_op; go_big_quiet_on) | (refine pl_nilCheck rfl rfl rfl ?_; intro K hK; simp only [Act.put, List.setIfInBounds_toArray, List.set_cons_succ, List.set_cons_zero]; go_big_quiet_on))); refine pl_nil ?_; rintro w1 ⟨d1, rfl⟩ -
    go_wp2; refine only_normal ?_
    go_wp2
    (first | (refine bodyPost_end (results_none rfl _ _ _) rfl ?_) | (refine bodyPost_ret (results_none rfl _ _ _) rfl ?_))
    rw [hml.out]
    refine ⟨rfl, x', y', g2, k, c2 - k, cur.setIfInBounds 9 (.slice (some ⟨g2, k * 3, none⟩) (more t.S (smp e)).length (c2 - k)), hx, hy, ?_, ?_, ?_, ?_⟩
    · rw [hx]; (repeat (first | exact Ext.refl _ | assumption | refine Ext.alloc ?_ _ | refine Ext.ext ?_ _ | refine Ext.drew ?_))
    · rw [hx]
      refine own_join (W := w0) (d := x') (cur := cur.setIfInBounds 9 (.slice (some ⟨g2, k * 3, none⟩) (more t.S (smp e)).length (c2 - k))) (by (repeat (first | exact Ext.refl _ | assumption | refine Ext.alloc ?_ _ | refine Ext.ext ?_ _ | refine Ext.drew ?_))) rfl (by omega) (by rw [Array.size_setIfInBounds]; exact q1.out) q2 q3 ?_
      rw [Array.toList_setIfInBounds, List.take_set, q4.out]
    · exact (SmpIn.like (S := fun k => k = w0.heap.size + x'.size) (e' := 64) (by decide) (smpIn_more hown2.out hkd.out) (by (repeat (first | exact Like.refl _ _ | refine Like.ext ?_ _ | refine Like.alloc ?_ _ | refine Like.swap ?_ (by simp <;> omega) _ _))) (fun b hb => ⟨_, _, hb ▸ heap_at w0 x' _ (by (repeat (first | exact Ext.refl _ | assumption | refine Ext.alloc ?_ _ | refine Ext.ext ?_ _ | refine Ext.drew ?_)))⟩)).ext (Ext.ext (Ext.refl _) d1)
    · intro h cu fr hh hne
      have h3 := hk2.out h cu fr hh hne
      have h4 : h ≠ w0.heap.size + x'.size := by
        rintro rfl
        rw [heap_at w0 x' _ (by (repeat (first | exact Ext.refl _ | assumption | refine Ext.alloc ?_ _ | refine Ext.ext ?_ _ | refine Ext.drew ?_)))] at h3
        cases h3
      exact heap_some_ext ((Like.heap (S := fun k => k = w0.heap.size + x'.size) (by (repeat (first | exact Like.refl _ _ | refine Like.ext ?_ _ | refine Like.alloc ?_ _ | refine Like.swap ?_ (by simp <;> omega) _ _))) h h4).trans h3) (Ext.ext (Ext.refl _) d1)
end Go.Proofs.Ytendgmnbnnkpnaa.G
