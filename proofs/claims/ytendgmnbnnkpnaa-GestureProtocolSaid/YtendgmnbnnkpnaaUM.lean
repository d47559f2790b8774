/- begin, whole; down. follow. follow, on whole recognisers. -/
import Derived.Test.YtendgmnbnnkpnaaUL
import Derived.WalkKit
import Derived.WalkSpells
import Derived.WalkLawsBesides
import Derived.Deep.QuietTactic
import Derived.BigQuiet
import Derived.BigRegion
import Derived.Lib.Hide
import Derived.Deep.RegionWith
set_option linter.unusedSimpArgs false
set_option linter.unusedVariables false
namespace Go.Proofs.Ytendgmnbnnkpnaa.G
open Go.RowKit
theorem MachS.ext0 {w0 w : World} {M : Nat} {r : Rec} {e : Ev} (hr : ROk r) (h : MachS w0 w M r e) {w' : World} (he : Ext w w') : Mach w0 w' M r e 0 [] := (h.weak hr).ext he
set_option maxHeartbeats 1000000 in
theorem beginF (w0 w : World) (M : Nat) (r : Rec) (e : Ev) (hl : room r.Kind ≤ r.Ts.length) (h : Mach w0 w M r e 0 []) :
    Calls Try.prog 84 #[.pointer (some ⟨M, 0, none⟩)] w fun x w' => ∃ v, x = .returned v ∧ Ext w w' := by
  obtain ⟨a, c, o, hM, hc, _⟩ := h.read
  have c0 : w.cell? ⟨M, 0, none⟩ = some (.int .i64 r.Kind) := hc 0 _ rfl
  have c4 : w.cell? ⟨M, 4, none⟩ = some (.slice a r.Ts.length c) := hc 4 _ rfl
  have hb : decide ((room r.Kind : Int) ≤ (r.Ts.length : Int)) = true := by simpa using hl
  have hb2 : decide (room r.Kind ≤ r.Ts.length) = true := by simpa using hl
  clear hc h hl
  go_enter Try.func84, Try.ntmps84
  go_wp2
  (refine wp_region_calm_ops [0, 1, 2, 3, 4, 5, 6, 7, 8, 9, 10, 11, 12] [] [] [] (by kernel_rfl) (by kernel_rfl) (by simp only [List.filterMap_cons, List.filterMap_nil, List.getElem?_toArray, List.getElem?_cons_succ, List.getElem?_cons_zero]; try exact rfl) (by simp only [List.filterMap_cons, List.filterMap_nil, List.getElem?_toArray, List.getElem?_cons_succ, List.getElem?_cons_zero]; try exact rfl) (by simp only [List.filterMap_cons, List.filterMap_nil, List.getElem?_toArray, List.getElem?_cons_succ, List.getElem?_cons_zero]; try exact rfl) ?_; (repeat (first | (refine ql_plain rfl rfl ?_; intro K hK; go_big_quiet_op; go_big_quiet_on) | (refine ql_nilCheck rfl rfl rfl ?_; intro K hK; simp only [Act.put, List.setIfInBounds_toArray, List.set_cons_succ, List.set_cons_zero]; go_big_quiet_on) | (refine ql_call (fun _ => ((room_any _ _).mono (by rintro e w' ⟨rfl, rfl⟩; exact ⟨rfl, Ext.refl _⟩))) rfl rfl Try.func91 rfl (by kernel_rfl) rfl ?_; intro K hK; simp only [Act.put, List.setIfInBounds_toArray, List.set_cons_succ, List.set_cons_zero]; go_big_quiet_on) | (refine ql_skip rfl ?_; intro K hK; simp only [Act.put, List.setIfInBounds_toArray, List.set_cons_succ, List.set_cons_zero]; go_big_quiet_on))); refine ql_nil ?_)
  refine mw0 ?_; (repeat (first | (refine pl_plain rfl rfl ?_; intro K hK; go_big_quiet_op; go_big_quiet_on) | (refine pl_nilCheck rfl rfl rfl ?_; intro K hK; simp only [Act.put, List.setIfInBounds_toArray, List.set_cons_succ, List.set_cons_zero]; go_big_quiet_on))); refine pl_nil ?_; rintro w1 ⟨d1, rfl⟩ -
  go_wp2; refine only_normal ?_
  go_wp2
  (refine bodyPost_ret (v := ?_) (by simp [results, Try.results84, go_sem]; rfl) rfl ?_)
  refine ⟨_, rfl, ?_⟩
  (repeat (first | exact Ext.refl _ | assumption | refine Ext.alloc ?_ _ | refine Ext.ext ?_ _ | refine Ext.drew ?_))
theorem begin_m (w0 w : World) (M : Nat) (r : Rec) (e : Ev) (hr : ROk r) (h : MachS w0 w M r e) :
    Calls Try.prog 84 #[.pointer (some ⟨M, 0, none⟩)] w fun x w' => ∃ v, x = .returned v ∧ Mach w0 w' M (beginR r e) e 0 [] := by
  by_cases hl : room r.Kind ≤ r.Ts.length
  · have hw : beginR r e = r := by simp [beginR, hl]
    rw [hw]
    exact (beginF w0 w M r e hl (h.weak hr)).mono fun x w' ⟨v, hx, he⟩ => ⟨v, hx, h.ext0 hr he⟩
  · rcases hr.shape with hs | ⟨t, hs, h1⟩ | ⟨t, u, hs, h1, h2, h7⟩
    · exact begin0 w0 w M r e hr hs h
    · refine begin1 w0 w M r e t h1 hs ?_ h
      rw [hs] at hl
      unfold room at hl
      split at hl
      · assumption
      · simp at hl
    · rw [hs, h7] at hl
      simp [room] at hl
theorem down_begin (r : Rec) (e : Ev) (h1 : ¬ (r.Kind ≤ 3 ∧ r.Ts ≠ [])) (h2 : ¬ (r.Kind = 2 ∧ r.Count = 1 ∧ 8 < dist (smp e) r.L)) : down r e = (beginR r e, 0, []) := by
  unfold down beginR
  rw [if_neg h1, if_neg h2]
  split <;> rfl
theorem smp_placed {e : Ev} (hv : valid e = true) (h5 : e.Kind ≠ 5) : placed (smp e) = true := by
  simp only [valid, if_neg h5, Bool.and_eq_true] at hv
  exact hv.2
set_option maxHeartbeats 2000000 in
theorem down_m (w0 w : World) (M : Nat) (r : Rec) (e : Ev) (hr : ROk r) (hp : placed (smp e) = true) (h : MachS w0 w M r e) :
    Calls Try.prog 58 #[.pointer (some ⟨M, 0, none⟩)] w fun x w' => x = .returned (.tuple #[]) ∧ Mach w0 w' M (down r e).1 e (down r e).2.1 (down r e).2.2 := by
  have hm := h
  obtain ⟨a, c, o, hM, hc, ht⟩ := (h.weak hr).read
  have c0 : w.cell? ⟨M, 0, none⟩ = some (.int .i64 r.Kind) := hc 0 _ rfl
  have c3 : w.cell? ⟨M, 3, none⟩ = some (.int .i64 r.Count) := hc 3 _ rfl
  have c4 : w.cell? ⟨M, 4, none⟩ = some (.slice a r.Ts.length c) := hc 4 _ rfl
  have c5 : w.cell? ⟨M, 5, none⟩ = some (.int .i64 r.L.X) := hc 5 _ rfl
  have c6 : w.cell? ⟨M, 6, none⟩ = some (.int .i64 r.L.Y) := hc 6 _ rfl
  have c7 : w.cell? ⟨M, 7, none⟩ = some (.int .i64 r.L.T) := hc 7 _ rfl
  have c8 : w.cell? ⟨M, 8, none⟩ = some (.int .i64 e.Kind) := hc 8 _ rfl
  have c9 : w.cell? ⟨M, 9, none⟩ = some (.int .i64 e.ID) := hc 9 _ rfl
  have c10 : w.cell? ⟨M, 10, none⟩ = some (.int .i64 e.X) := hc 10 _ rfl
  have c11 : w.cell? ⟨M, 11, none⟩ = some (.int .i64 e.Y) := hc 11 _ rfl
  have c12 : w.cell? ⟨M, 12, none⟩ = some (.int .i64 e.Time) := hc 12 _ rfl
  have c13 : w.cell? ⟨M, 13, none⟩ = some (.int .i64 e.Wheel) := hc 13 _ rfl
  have hds := Lib.hid fun w => dist_s (smp e) r.L hp hr.last w
  simp only [smp] at hds
  replace hm := Lib.hid hm
  replace hr2 := Lib.hid hr
  have k1 := hr.kind
  clear hc h ht
  by_cases hk3 : r.Kind ≤ 3
  · by_cases hts : r.Ts = []
    · rw [hts, List.length_nil] at c4
      by_cases hfar : r.Kind = 2 ∧ r.Count = 1 ∧ 8 < dist (smp e) r.L
      · have hw : down r e = fail r := by simp [down, hts, hfar]
        rw [hw]
        obtain ⟨hk, hc1, hd⟩ := hfar
        have e1 : (r.Kind == 1) = false := by simp [hk]
        have e2 : (r.Kind == 2) = true := by simp [hk]
        have e3 : (r.Count == 1) = true := by simp [hc1]
        have d1 : decide (8 < dist ⟨e.X, e.Y, e.Time⟩ r.L) = true := by simpa [smp] using hd
        clear hk hc1 hd hw hk3 hts hr k1 hp
        go_enter Try.func58, Try.ntmps58
        go_wp2
        (refine wp_region_ext (by kernel_rfl) (by kernel_rfl) ?_; (repeat (go_big_quiet_step ((first | (go_at_call 53; exact Calls.quiet_ext (sample_any _ _ _ _ _ _ _)) | (go_at_call 83; exact Calls.quiet_ext (hds.out _)))))); refine wpQuiet_nil ?_; intro _ hwq; obtain ⟨dq, hwq⟩ := hwq; subst hwq)
        go_wp2_with fail
        refine (fail_m w0 _ M r e [] (hm.out.ext0 hr2.out (by (repeat (first | exact Ext.refl _ | assumption | refine Ext.alloc ?_ _ | refine Ext.ext ?_ _ | refine Ext.drew ?_))))).mono ?_
        rintro x w1 ⟨rfl, hm2⟩
        replace hm2 := Lib.hid hm2
        go_wp2
        (first | (refine bodyPost_end (results_none rfl _ _ _) rfl ?_) | (refine bodyPost_ret (results_none rfl _ _ _) rfl ?_))
        exact ⟨rfl, hm2.out⟩
      · have hw : down r e = (beginR r e, 0, []) := down_begin r e (by simp [hts]) hfar
        rw [hw]
        by_cases hk : r.Kind = 2
        · have e1 : (r.Kind == 1) = false := by simp [hk]
          have e2 : (r.Kind == 2) = true := by simp [hk]
          by_cases hc1 : r.Count = 1
          · have e3 : (r.Count == 1) = true := by simp [hc1]
            have d1 : decide (8 < dist ⟨e.X, e.Y, e.Time⟩ r.L) = false := by simpa [smp, hk, hc1] using hfar
            clear hk hc1 hfar hw hk3 hts hr k1 hp
            go_enter Try.func58, Try.ntmps58
            go_wp2
            (refine wp_region_ext (by kernel_rfl) (by kernel_rfl) ?_; (repeat (go_big_quiet_step ((first | (go_at_call 53; exact Calls.quiet_ext (sample_any _ _ _ _ _ _ _)) | (go_at_call 83; exact Calls.quiet_ext (hds.out _)))))); refine wpQuiet_nil ?_; intro _ hwq; obtain ⟨dq, hwq⟩ := hwq; subst hwq)
            go_wp2_with fail
            refine (begin_m w0 _ M r e hr2.out (hm.out.ext (by (repeat (first | exact Ext.refl _ | assumption | refine Ext.alloc ?_ _ | refine Ext.ext ?_ _ | refine Ext.drew ?_))))).mono ?_
            rintro x w1 ⟨v, rfl, hm2⟩
            replace hm2 := Lib.hid hm2
            go_wp2
            (first | (refine bodyPost_end (results_none rfl _ _ _) rfl ?_) | (refine bodyPost_ret (results_none rfl _ _ _) rfl ?_))
            exact ⟨rfl, hm2.out⟩
          · have e3 : (r.Count == 1) = false := by simp [hc1]
            clear hk hc1 hfar hw hk3 hts hr k1 hp
            go_enter Try.func58, Try.ntmps58
            go_wp2
            (refine wp_region_ext (by kernel_rfl) (by kernel_rfl) ?_; (repeat (go_big_quiet_step ((first | (go_at_call 53; exact Calls.quiet_ext (sample_any _ _ _ _ _ _ _)) | (go_at_call 83; exact Calls.quiet_ext (hds.out _)))))); refine wpQuiet_nil ?_; intro _ hwq; obtain ⟨dq, hwq⟩ := hwq; subst hwq)
            go_wp2_with fail
            refine (begin_m w0 _ M r e hr2.out (hm.out.ext (by (repeat (first | exact Ext.refl _ | assumption | refine Ext.alloc ?_ _ | refine Ext.ext ?_ _ | refine Ext.drew ?_))))).mono ?_
            rintro x w1 ⟨v, rfl, hm2⟩
            replace hm2 := Lib.hid hm2
            go_wp2
            (first | (refine bodyPost_end (results_none rfl _ _ _) rfl ?_) | (refine bodyPost_ret (results_none rfl _ _ _) rfl ?_))
            exact ⟨rfl, hm2.out⟩
        · have e2 : (r.Kind == 2) = false := by simp [hk]
          have e13 : (r.Kind == 1) = true ∨ (r.Kind == 1) = false ∧ (r.Kind == 3) = true := by
            simp only [beq_iff_eq, beq_eq_false_iff_ne]; omega
          clear hk hfar hw hk3 hts hr k1 hp
          rcases e13 with e1 | ⟨e1, e3⟩
          all_goals
            go_enter Try.func58, Try.ntmps58
            go_wp2
            (refine wp_region_ext (by kernel_rfl) (by kernel_rfl) ?_; (repeat (go_big_quiet_step ((first | (go_at_call 53; exact Calls.quiet_ext (sample_any _ _ _ _ _ _ _)) | (go_at_call 83; exact Calls.quiet_ext (hds.out _)))))); refine wpQuiet_nil ?_; intro _ hwq; obtain ⟨dq, hwq⟩ := hwq; subst hwq)
            go_wp2_with fail
            refine (begin_m w0 _ M r e hr2.out (hm.out.ext (by (repeat (first | exact Ext.refl _ | assumption | refine Ext.alloc ?_ _ | refine Ext.ext ?_ _ | refine Ext.drew ?_))))).mono ?_
            rintro x w1 ⟨v, rfl, hm2⟩
            replace hm2 := Lib.hid hm2
            go_wp2
            (first | (refine bodyPost_end (results_none rfl _ _ _) rfl ?_) | (refine bodyPost_ret (results_none rfl _ _ _) rfl ?_))
            exact ⟨rfl, hm2.out⟩
    · have hw : down r e = fail r := by simp [down, hts, hk3]
      rw [hw]
      have hpos : 0 < r.Ts.length := List.length_pos_iff.2 hts
      have hp1 : decide (0 < (r.Ts.length : Int)) = true := by simpa using hpos
      have e13 : (r.Kind == 1) = true ∨ (r.Kind == 1) = false ∧ (r.Kind == 2) = true ∨ (r.Kind == 1) = false ∧ (r.Kind == 2) = false ∧ (r.Kind == 3) = true := by
        simp only [beq_iff_eq, beq_eq_false_iff_ne]; omega
      clear hw hk3 hts hr k1 hp
      rcases e13 with e1 | ⟨e1, e2⟩ | ⟨e1, e2, e3⟩
      all_goals
        go_enter Try.func58, Try.ntmps58
        go_wp2_with fail
        refine (fail_m w0 _ M r e [] (hm.out.ext0 hr2.out (by (repeat (first | exact Ext.refl _ | assumption | refine Ext.alloc ?_ _ | refine Ext.ext ?_ _ | refine Ext.drew ?_))))).mono ?_
        rintro x w1 ⟨rfl, hm2⟩
        replace hm2 := Lib.hid hm2
        go_wp2
        (first | (refine bodyPost_end (results_none rfl _ _ _) rfl ?_) | (refine bodyPost_ret (results_none rfl _ _ _) rfl ?_))
        exact ⟨rfl, hm2.out⟩
  · have hw : down r e = (beginR r e, 0, []) := down_begin r e (fun h => hk3 h.1) (fun h => hk3 (by omega))
    rw [hw]
    have e1 : (r.Kind == 1) = false := by simp; omega
    have e2 : (r.Kind == 2) = false := by simp; omega
    have e3 : (r.Kind == 3) = false := by simp; omega
    clear hw hk3 hr k1 hp
    go_enter Try.func58, Try.ntmps58
    go_wp2_with fail
    refine (begin_m w0 _ M r e hr2.out (hm.out.ext (by (repeat (first | exact Ext.refl _ | assumption | refine Ext.alloc ?_ _ | refine Ext.ext ?_ _ | refine Ext.drew ?_))))).mono ?_
    rintro x w1 ⟨v, rfl, hm2⟩
    replace hm2 := Lib.hid hm2
    go_wp2
    (first | (refine bodyPost_end (results_none rfl _ _ _) rfl ?_) | (refine bodyPost_ret (results_none rfl _ _ _) rfl ?_))
    exact ⟨rfl, hm2.out⟩
end Go.Proofs.Ytendgmnbnnkpnaa.G
namespace Go
theorem lay3 {w0 w : World} {A O : Obj} {x y : Grow} (he : Ext w0 w) (hg : w.heap[w0.heap.size + x.size]? = some A) (hM : w.heap[w0.heap.size + x.size + 1 + y.size]? = some O) :
    ∃ x' y' z' : Grow, x.size = x'.size ∧ y.size = y'.size ∧ w = ((((w0.ext x').alloc A).ext y').alloc O).ext z' := by
  obtain ⟨d, z, h1, rfl⟩ := he.split hM (by omega)
  obtain ⟨x', y', z', h2, h3, h4⟩ := lay2 (w0 := w0) (w := ((w0.ext d).alloc O).ext z) (Ext.ext (Ext.refl _) z) hg (by omega) (by omega)
  exact ⟨x', y', z', by omega, by omega, h4⟩
end Go
namespace Go.Proofs.Ytendgmnbnnkpnaa.G
open Go.RowKit
theorem cellsS_append (l k : List Smp) : cellsS (l ++ k) = cellsS l ++ cellsS k := by
  induction l with
  | nil => rfl
  | cons s l ih => simp only [List.cons_append, cellsS, ih]
theorem cellsS_drop (l : List Smp) (k : Nat) : cellsS (l.drop k) = (cellsS l).drop (k * 3) := by
  induction k generalizing l with
  | zero => simp
  | succ k ih =>
    cases l with
    | nil => simp [cellsS]
    | cons s l =>
      rw [List.drop_succ_cons, ih, show (k + 1) * 3 = k * 3 + 1 + 1 + 1 by omega]
      simp only [cellsS, List.drop_succ_cons]
theorem smpIn_more {w : World} {B g c k : Nat} {l : List Smp} {x y z : Int} (h : w.ownsRow B 24 3 (.slice (some ⟨g, 0, none⟩) (l.length + 1) c) (l.length + 1) (cellsS l ++ [.int .i64 x, .int .i64 y, .int .i64 z])) (hk : k = l.length + 1 - 8) : SmpIn w g (k * 3) (more l ⟨x, y, z⟩) := by
  obtain ⟨cu, hcu, _⟩ := row_heap h
  obtain ⟨_, _, _, h4⟩ := row_cur h hcu
  refine ⟨cu, _, hcu, fun j u hu => cur_get h4 ?_⟩
  have e : cellsS l ++ [.int .i64 x, .int .i64 y, .int .i64 z] = cellsS (l ++ [(⟨x, y, z⟩ : Smp)]) := (cellsS_append l [⟨x, y, z⟩]).symm
  have e2 : more l ⟨x, y, z⟩ = (l ++ [(⟨x, y, z⟩ : Smp)]).drop k := by rw [hk, more]; simp
  rw [e2, cellsS_drop, List.getElem?_drop] at hu
  rw [e]; exact hu
set_option maxHeartbeats 1000000 in
theorem follow_core (w0 : World) (x y z : Grow) (cur : Array Value) (c : Nat) (r : Rec) (e : Ev) (i nT : Nat) (xs : List Value) (t : Tch) (g gc : Nat) (h1 : TOk t) (hl : r.Ts.length = nT) (hi : (i = 0 ∧ nT = 1) ∨ (i = 0 ∧ nT = 2) ∨ (i = 1 ∧ nT = 2))
    (hx4 : xs[i * 5 + 4]? = some (.slice (some ⟨g, 0, none⟩) t.S.length gc)) (W : World) (hW : W = ((((w0.ext x).alloc (.cells cur 64)).ext y).alloc (.cells #[.int .i64 (r).Kind, .int .i64 (r).Node, .int .i64 (r).State, .int .i64 (r).Count, .slice (some ⟨w0.heap.size + x.size, 0, none⟩) (r).Ts.length c, .int .i64 (r).L.X, .int .i64 (r).L.Y, .int .i64 (r).L.T, .int .i64 (e).Kind, .int .i64 (e).ID, .int .i64 (e).X, .int .i64 (e).Y, .int .i64 (e).Time, .int .i64 (e).Wheel, .int .i64 0, .slice none 0 0] 82)).ext z)
    (hrow : W.ownsRow w0.heap.size 64 5 (.slice (some ⟨w0.heap.size + x.size, 0, none⟩) nT c) nT xs) (hs : OwnS W w0.heap.size g gc t.S) :
    Calls Try.prog 60 #[.pointer (some ⟨w0.heap.size + x.size + 1 + y.size, 0, none⟩), .int .i64 i] W fun v w' => v = .returned (.tuple #[]) ∧
      ∃ (x' y' : Grow) (g2 k c2 : Nat) (cur' : Array Value), x.size = x'.size ∧ y.size = y'.size ∧ Ext ((((w0.ext x').alloc (.cells cur' 64)).ext y').alloc (.cells #[.int .i64 (r).Kind, .int .i64 (r).Node, .int .i64 (r).State, .int .i64 (r).Count, .slice (some ⟨w0.heap.size + x.size, 0, none⟩) (r).Ts.length c, .int .i64 (r).L.X, .int .i64 (r).L.Y, .int .i64 (r).L.T, .int .i64 (e).Kind, .int .i64 (e).ID, .int .i64 (e).X, .int .i64 (e).Y, .int .i64 (e).Time, .int .i64 (e).Wheel, .int .i64 0, .slice none 0 0] 82)) w' ∧
      w'.ownsRow w0.heap.size 64 5 (.slice (some ⟨w0.heap.size + x.size, 0, none⟩) nT c) nT (xs.set (i * 5 + 4) (.slice (some ⟨g2, k * 3, none⟩) (more t.S (smp e)).length c2)) ∧ SmpIn w' g2 (k * 3) (more t.S (smp e)) ∧
      ∀ h cu fr, W.heap[h]? = some (.cells cu 24 fr) → h ≠ g → w'.heap[h]? = some (.cells cu 24 fr) := by
  obtain ⟨q1, q2, q3, q4⟩ := row_cur (cur := cur) hrow (by rw [hW]; exact heap_at w0 x _ (by (repeat (first | exact Ext.refl _ | assumption | refine Ext.alloc ?_ _ | refine Ext.ext ?_ _ | refine Ext.drew ?_))))
  have p4 := cur_get q4 hx4
  have hpos : 0 < t.S.length := List.length_pos_iff.2 h1.ne
  have hn8 := h1.len
  replace q1 := Lib.hid q1
  replace q4 := Lib.hid q4
  have hE : Hid (Ext w0 W) := by
    rw [hW]
    show Ext _ _
    (repeat (first | exact Ext.refl _ | assumption | refine Ext.alloc ?_ _ | refine Ext.ext ?_ _ | refine Ext.drew ?_))
  have hM : Hid (W.heap[w0.heap.size + x.size + 1 + y.size]? = some (.cells #[.int .i64 (r).Kind, .int .i64 (r).Node, .int .i64 (r).State, .int .i64 (r).Count, .slice (some ⟨w0.heap.size + x.size, 0, none⟩) (r).Ts.length c, .int .i64 (r).L.X, .int .i64 (r).L.Y, .int .i64 (r).L.T, .int .i64 (e).Kind, .int .i64 (e).ID, .int .i64 (e).X, .int .i64 (e).Y, .int .i64 (e).Time, .int .i64 (e).Wheel, .int .i64 0, .slice none 0 0] 82)) := by
    rw [hW]
    refine heap_at' ((w0.ext x).alloc _) y _ ?_ (by (repeat (first | exact Ext.refl _ | assumption | refine Ext.alloc ?_ _ | refine Ext.ext ?_ _ | refine Ext.drew ?_)))
    simp only [World.size_ext, World.size_alloc]
  have hB : Hid (W.heap[w0.heap.size + x.size]? = some (.cells cur 64)) := by
    rw [hW]
    exact heap_at w0 x _ (by (repeat (first | exact Ext.refl _ | assumption | refine Ext.alloc ?_ _ | refine Ext.ext ?_ _ | refine Ext.drew ?_)))
  replace hrow := Lib.hid hrow
  replace hs := Lib.hid hs
  have hkeep : Hid (∀ (w1 w2 : World), Ext W w1 → w1.grownBy w2 (some g) → ∀ h cu fr, W.heap[h]? = some (.cells cu 24 fr) → h ≠ g → w2.heap[h]? = some (.cells cu 24 fr)) := fun w1 w2 he hg h cu fr hh hne => heap_grown hg (heap_some_ext hh he) (fun k hk => by simp only [Option.some.injEq] at hk; omega)
  rcases hi with ⟨rfl, rfl⟩ | ⟨rfl, rfl⟩ | ⟨rfl, rfl⟩
  focus
    rw [hl] at hW hM ⊢
    simp only [Nat.zero_mul, Nat.zero_add, Nat.one_mul, Nat.reduceAdd] at p4 hx4 ⊢
    replace hl := Lib.hid hl
    subst hW
    go_enter Try.func60, Try.ntmps60
    go_wp2
    (refine wp_region_calm_ops [1, 2, 3, 4, 5, 6, 7, 8, 9] [10] [0] [11, 12, 13, 14] (by kernel_rfl) (by kernel_rfl) (by simp only [List.filterMap_cons, List.filterMap_nil, List.getElem?_toArray, List.getElem?_cons_succ, List.getElem?_cons_zero]; try exact rfl) (by simp only [List.filterMap_cons, List.filterMap_nil, List.getElem?_toArray, List.getElem?_cons_succ, List.getElem?_cons_zero]; try exact rfl) (by simp only [List.filterMap_cons, List.filterMap_nil, List.getElem?_toArray, List.getElem?_cons_succ, List.getElem?_cons_zero]; try exact rfl) ?_; (repeat (first | (refine ql_plain rfl rfl ?_; intro K hK; go_big_quiet_op; go_big_quiet_on) | (refine ql_nilCheck rfl rfl rfl ?_; intro K hK; simp only [Act.put, List.setIfInBounds_toArray, List.set_cons_succ, List.set_cons_zero]; go_big_quiet_on) | (refine ql_call (fun _ => (sample_any _ _ _ _ _ _ _)) rfl rfl Try.func53 rfl (by kernel_rfl) rfl ?_; intro K hK; simp only [Act.put, List.setIfInBounds_toArray, List.set_cons_succ, List.set_cons_zero]; go_big_quiet_on) | (refine ql_skip rfl ?_; intro K hK; simp only [Act.put, List.setIfInBounds_toArray, List.set_cons_succ, List.set_cons_zero]; go_big_quiet_on))); refine ql_nil ?_)
    refine mw1 (mk_sl (.cells #[.int .i64 e.X, .int .i64 e.Y, .int .i64 e.Time] 24) 1 (by simp only [List.getElem?_toArray, List.getElem?_cons_succ, List.getElem?_cons_zero]; try exact rfl) rfl (fun d => by go_simp)) ?_; intro u1 hu1 K hK; simp only [Act.put, List.setIfInBounds_toArray, List.set_cons_succ, List.set_cons_zero, List.getElem?_toArray, List.getElem?_cons_succ, List.getElem?_cons_zero, Option.bind_some]; refine hK _ ?_; clear hK K; (repeat (first | (refine pl_plain rfl rfl ?_; intro K hK; go_big_quiet_op; go_big_quiet_on) | (refine pl_nilCheck rfl rfl rfl ?_; intro K hK; simp only [Act.put, List.setIfInBounds_toArray, List.set_cons_succ, List.set_cons_zero]; go_big_quiet_on))); refine pl_nil ?_; rintro w1 he1 ⟨_, hf1⟩
    obtain ⟨b1, rfl, hf⟩ := hf1
    obtain ⟨d3, rfl⟩ := he1
    have hat := Lib.hid (cells_at0 hf rfl)
    clear hf
    refine wpList_append_row _ _ _ 57 24 _ 3 24 infoS Try.underlying57 rfl (by decide) w0.heap.size _ t.S.length (cellsS t.S) (ownsRow_ext hs.out (by (repeat (first | exact Ext.refl _ | assumption | refine Ext.alloc ?_ _ | refine Ext.ext ?_ _ | refine Ext.drew ?_)))) ⟨b1, 0, none⟩ 1 1 [.int .i64 e.X, .int .i64 e.Y, .int .i64 e.Time] (by decide) rfl hat.out (by simp [Value.oneCell']) (by unfold maxLen; omega) (by omega) (by simp <;> omega) rfl rfl rfl rfl ?_
    intro g2 c2 w2 hown2 hg2
    have hM2 := heap_grown hg2 (heap_some_ext hM.out (by (repeat (first | exact Ext.refl _ | assumption | refine Ext.alloc ?_ _ | refine Ext.ext ?_ _ | refine Ext.drew ?_)))) (own_ne' hs.out hM.out (by decide))
    have hB2 := heap_grown hg2 (heap_some_ext hB.out (by (repeat (first | exact Ext.refl _ | assumption | refine Ext.alloc ?_ _ | refine Ext.ext ?_ _ | refine Ext.drew ?_)))) (own_ne' hs.out hB.out (by decide))
    have hE2 := Ext.of_grown (hE.out.trans (by (repeat (first | exact Ext.refl _ | assumption | refine Ext.alloc ?_ _ | refine Ext.ext ?_ _ | refine Ext.drew ?_)))) hg2 (fun k hk => (hs.out.lt k hk).1)
    have hk2 := Lib.hid (hkeep.out _ _ (by (repeat (first | exact Ext.refl _ | assumption | refine Ext.alloc ?_ _ | refine Ext.ext ?_ _ | refine Ext.drew ?_))) hg2)
    obtain ⟨_, hc2, hm2, _⟩ : True ∧ t.S.length + 1 ≤ c2 ∧ c2 ≤ maxLen ∧ True := by
      obtain ⟨cu, hcu, _⟩ := row_heap hown2
      obtain ⟨_, h2, h3, _⟩ := row_cur hown2 hcu
      exact ⟨trivial, h2, h3, trivial⟩
    obtain ⟨x', y', z', hx, hy, hw2⟩ := lay3 hE2 hB2 hM2
    rw [hx] at hw2
    subst hw2
    replace hown2 := Lib.hid hown2
    clear hM2 hB2 hE2 hg2 hat hM hB hE hs hkeep
    simp only [hx, hy]
    go_wp2; refine only_normal ?_
    have g4 : (cur.setIfInBounds 4 (.slice (some ⟨g2, 0, none⟩) (t.S.length + 1) c2))[4]? = some (.slice (some ⟨g2, 0, none⟩) (t.S.length + 1) c2) := get_set_same _ _ _ (by have := q1.out; omega)
    obtain ⟨k, hkd⟩ : ∃ k, k = t.S.length + 1 - 8 := ⟨_, rfl⟩
    have hk : mx 0 ((t.S.length : Int) + 1 - 8) = (k : Int) := by unfold mx; split <;> omega
    have hk1 : (k : Int) ≤ (t.S.length : Int) + 1 := by omega
    have hk3 : ¬ c2 = k := by omega
    have hml : t.S.length + 1 - k = (more t.S (smp e)).length := by simp [more]; omega
    replace hkd := Lib.hid hkd
    replace hml := Lib.hid hml
    go_wp2_with fail
    (refine wp_region_calm_ops [0, 1, 2, 3, 4, 5, 6, 7, 8, 9, 10, 11, 12, 13, 14] [] [] [15] (by kernel_rfl) (by kernel_rfl) (by simp only [List.filterMap_cons, List.filterMap_nil, List.getElem?_toArray, List.getElem?_cons_succ, List.getElem?_cons_zero]; try exact rfl) (by simp only [List.filterMap_cons, List.filterMap_nil, List.getElem?_toArray, List.getElem?_cons_succ, List.getElem?_cons_zero]; try exact rfl) (by simp only [List.filterMap_cons, List.filterMap_nil, List.getElem?_toArray, List.getElem?_cons_succ, List.getElem?_cons_zero]; try exact rfl) ?_; (repeat (first | (refine ql_plain rfl rfl ?_; intro K hK; go_big_quiet_op; go_big_quiet_on) | (refine ql_nilCheck rfl rfl rfl ?_; intro K hK; simp only [Act.put, List.setIfInBounds_toArray, List.set_cons_succ, List.set_cons_zero]; go_big_quiet_on) | fail | (refine ql_skip rfl ?_; intro K hK; simp only [Act.put, List.setIfInBounds_toArray, List.set_cons_succ, List.set_cons_zero]; go_big_quiet_on))); refine ql_nil ?_)
    refine mw0 ?_; (repeat (first | (refine pl_plain rfl rfl ?_; intro K hK; go_big_quiet_op; go_big_quiet_on) | (refine pl_nilCheck rfl rfl rfl ?_; intro K hK; simp only [Act.put, List.setIfInBounds_toArray, List.set_cons_succ, List.set_cons_zero]; go_big_quiet_on))); refine pl_nil ?_; rintro w1 ⟨d1, rfl⟩ -
    go_wp2; refine only_normal ?_
    go_wp2
    (first | (refine bodyPost_end (results_none rfl _ _ _) rfl ?_) | (refine bodyPost_ret (results_none rfl _ _ _) rfl ?_))
    rw [hml.out]
    refine ⟨rfl, x', y', g2, k, c2 - k, cur.setIfInBounds 4 (.slice (some ⟨g2, k * 3, none⟩) (more t.S (smp e)).length (c2 - k)), hx, hy, ?_, ?_, ?_, ?_⟩
    · rw [hx]; (repeat (first | exact Ext.refl _ | assumption | refine Ext.alloc ?_ _ | refine Ext.ext ?_ _ | refine Ext.drew ?_))
    · rw [hx]
      refine own_join (W := w0) (d := x') (cur := cur.setIfInBounds 4 (.slice (some ⟨g2, k * 3, none⟩) (more t.S (smp e)).length (c2 - k))) (by (repeat (first | exact Ext.refl _ | assumption | refine Ext.alloc ?_ _ | refine Ext.ext ?_ _ | refine Ext.drew ?_))) rfl (by omega) (by rw [Array.size_setIfInBounds]; exact q1.out) q2 q3 ?_
      rw [Array.toList_setIfInBounds, List.take_set, q4.out]
    · exact (SmpIn.like (S := fun k => k = w0.heap.size + x'.size) (e' := 64) (by decide) (smpIn_more hown2.out hkd.out) (by (repeat (first | exact Like.refl _ _ | refine Like.ext ?_ _ | refine Like.alloc ?_ _ | refine Like.swap ?_ (by simp <;> omega) _ _))) (fun b hb => ⟨_, _, hb ▸ heap_at w0 x' _ (by (repeat (first | exact Ext.refl _ | assumption | refine Ext.alloc ?_ _ | refine Ext.ext ?_ _ | refine Ext.drew ?_)))⟩)).ext (Ext.ext (Ext.refl _) d1)
    · intro h cu fr hh hne
      have h3 := hk2.out h cu fr hh hne
      have h4 : h ≠ w0.heap.size + x'.size := by
        rintro rfl
        rw [heap_at w0 x' _ (by (repeat (first | exact Ext.refl _ | assumption | refine Ext.alloc ?_ _ | refine Ext.ext ?_ _ | refine Ext.drew ?_)))] at h3
        cases h3
      exact heap_some_ext ((Like.heap (S := fun k => k = w0.heap.size + x'.size) (by (repeat (first | exact Like.refl _ _ | refine Like.ext ?_ _ | refine Like.alloc ?_ _ | refine Like.swap ?_ (by simp <;> omega) _ _))) h h4).trans h3) (Ext.ext (Ext.refl _) d1)
  focus
    rw [hl] at hW hM ⊢
    simp only [Nat.zero_mul, Nat.zero_add, Nat.one_mul, Nat.reduceAdd] at p4 hx4 ⊢
    replace hl := Lib.hid hl
    subst hW
    go_enter Try.func60, Try.ntmps60
    go_wp2
    (refine wp_region_calm_ops [1, 2, 3, 4, 5, 6, 7, 8, 9] [10] [0] [11, 12, 13, 14] (by kernel_rfl) (by kernel_rfl) (by simp only [List.filterMap_cons, List.filterMap_nil, List.getElem?_toArray, List.getElem?_cons_succ, List.getElem?_cons_zero]; try exact rfl) (by simp only [List.filterMap_cons, List.filterMap_nil, List.getElem?_toArray, List.getElem?_cons_succ, List.getElem?_cons_zero]; try exact rfl) (by simp only [List.filterMap_cons, List.filterMap_nil, List.getElem?_toArray, List.getElem?_cons_succ, List.getElem?_cons_zero]; try exact rfl) ?_; (repeat (first | (refine ql_plain rfl rfl ?_; intro K hK; go_big_quiet_op; go_big_quiet_on) | (refine ql_nilCheck rfl rfl rfl ?_; intro K hK; simp only [Act.put, List.setIfInBounds_toArray, List.set_cons_succ, List.set_cons_zero]; go_big_quiet_on) | (refine ql_call (fun _ => (sample_any _ _ _ _ _ _ _)) rfl rfl Try.func53 rfl (by kernel_rfl) rfl ?_; intro K hK; simp only [Act.put, List.setIfInBounds_toArray, List.set_cons_succ, List.set_cons_zero]; go_big_quiet_on) | (refine ql_skip rfl ?_; intro K hK; simp only [Act.put, List.setIfInBounds_toArray, List.set_cons_succ, List.set_cons_zero]; go_big_quiet_on))); refine ql_nil ?_)
    refine mw1 (mk_sl (.cells #[.int .i64 e.X, .int .i64 e.Y, .int .i64 e.Time] 24) 1 (by simp only [List.getElem?_toArray, List.getElem?_cons_succ, List.getElem?_cons_zero]; try exact rfl) rfl (fun d => by go_simp)) ?_; intro u1 hu1 K hK; simp only [Act.put, List.setIfInBounds_toArray, List.set_cons_succ, List.set_cons_zero, List.getElem?_toArray, List.getElem?_cons_succ, List.getElem?_cons_zero, Option.bind_some]; refine hK _ ?_; clear hK K; (repeat (first | (refine pl_plain rfl rfl ?_; intro K hK; go_big_quiet_op; go_big_quiet_on) | (refine pl_nilCheck rfl rfl rfl ?_; intro K hK; simp only [Act.put, List.setIfInBounds_toArray, List.set_cons_succ, List.set_cons_zero]; go_big_quiet_on))); refine pl_nil ?_; rintro w1 he1 ⟨_, hf1⟩
    obtain ⟨b1, rfl, hf⟩ := hf1
    obtain ⟨d3, rfl⟩ := he1
    have hat := Lib.hid (cells_at0 hf rfl)
    clear hf
    refine wpList_append_row _ _ _ 57 24 _ 3 24 infoS Try.underlying57 rfl (by decide) w0.heap.size _ t.S.length (cellsS t.S) (ownsRow_ext hs.out (by (repeat (first | exact Ext.refl _ | assumption | refine Ext.alloc ?_ _ | refine Ext.ext ?_ _ | refine Ext.drew ?_)))) ⟨b1, 0, none⟩ 1 1 [.int .i64 e.X, .int .i64 e.Y, .int .i64 e.Time] (by decide) rfl hat.out (by simp [Value.oneCell']) (by unfold maxLen; omega) (by omega) (by simp <;> omega) rfl rfl rfl rfl ?_
    intro g2 c2 w2 hown2 hg2
    have hM2 := heap_grown hg2 (heap_some_ext hM.out (by (repeat (first | exact Ext.refl _ | assumption | refine Ext.alloc ?_ _ | refine Ext.ext ?_ _ | refine Ext.drew ?_)))) (own_ne' hs.out hM.out (by decide))
    have hB2 := heap_grown hg2 (heap_some_ext hB.out (by (repeat (first | exact Ext.refl _ | assumption | refine Ext.alloc ?_ _ | refine Ext.ext ?_ _ | refine Ext.drew ?_)))) (own_ne' hs.out hB.out (by decide))
    have hE2 := Ext.of_grown (hE.out.trans (by (repeat (first | exact Ext.refl _ | assumption | refine Ext.alloc ?_ _ | refine Ext.ext ?_ _ | refine Ext.drew ?_)))) hg2 (fun k hk => (hs.out.lt k hk).1)
    have hk2 := Lib.hid (hkeep.out _ _ (by (repeat (first | exact Ext.refl _ | assumption | refine Ext.alloc ?_ _ | refine Ext.ext ?_ _ | refine Ext.drew ?_))) hg2)
    obtain ⟨_, hc2, hm2, _⟩ : True ∧ t.S.length + 1 ≤ c2 ∧ c2 ≤ maxLen ∧ True := by
      obtain ⟨cu, hcu, _⟩ := row_heap hown2
      obtain ⟨_, h2, h3, _⟩ := row_cur hown2 hcu
      exact ⟨trivial, h2, h3, trivial⟩
    obtain ⟨x', y', z', hx, hy, hw2⟩ := lay3 hE2 hB2 hM2
    rw [hx] at hw2
    subst hw2
    replace hown2 := Lib.hid hown2
    clear hM2 hB2 hE2 hg2 hat hM hB hE hs hkeep
    simp only [hx, hy]
    go_wp2; refine only_normal ?_
    have g4 : (cur.setIfInBounds 4 (.slice (some ⟨g2, 0, none⟩) (t.S.length + 1) c2))[4]? = some (.slice (some ⟨g2, 0, none⟩) (t.S.length + 1) c2) := get_set_same _ _ _ (by have := q1.out; omega)
    obtain ⟨k, hkd⟩ : ∃ k, k = t.S.length + 1 - 8 := ⟨_, rfl⟩
    have hk : mx 0 ((t.S.length : Int) + 1 - 8) = (k : Int) := by unfold mx; split <;> omega
    have hk1 : (k : Int) ≤ (t.S.length : Int) + 1 := by omega
    have hk3 : ¬ c2 = k := by omega
    have hml : t.S.length + 1 - k = (more t.S (smp e)).length := by simp [more]; omega
    replace hkd := Lib.hid hkd
    replace hml := Lib.hid hml
    go_wp2_with fail
    (refine wp_region_calm_ops [0, 1, 2, 3, 4, 5, 6, 7, 8, 9, 10, 11, 12, 13, 14] [] [] [15] (by kernel_rfl) (by kernel_rfl) (by simp only [List.filterMap_cons, List.filterMap_nil, List.getElem?_toArray, List.getElem?_cons_succ, List.getElem?_cons_zero]; try exact rfl) (by simp only [List.filterMap_cons, List.filterMap_nil, List.getElem?_toArray, List.getElem?_cons_succ, List.getElem?_cons_zero]; try exact rfl) (by simp only [List.filterMap_cons, List.filterMap_nil, List.getElem?_toArray, List.getElem?_cons_succ, List.getElem?_cons_zero]; try exact rfl) ?_; (repeat (first | (refine ql_plain rfl rfl ?_; intro K hK; go_big_quiet_op; go_big_quiet_on) | (refine ql_nilCheck rfl rfl rfl ?_; intro K hK; simp only [Act.put, List.setIfInBounds_toArray, List.set_cons_succ, List.set_cons_zero]; go_big_quiet_on) | fail | (refine ql_skip rfl ?_; intro K hK; simp only [Act.put, List.setIfInBounds_toArray, List.set_cons_succ, List.set_cons_zero]; go_big_quiet_on))); refine ql_nil ?_)
    refine mw0 ?_; (repeat (first | (refine pl_plain rfl rfl ?_; intro K hK; go_big_quiet_op; go_big_quiet_on) | (refine pl_nilCheck rfl rfl rfl ?_; intro K hK; simp only [Act.put, List.setIfInBounds_toArray, List.set_cons_succ, List.set_cons_zero]; go_big_quiet_on))); refine pl_nil ?_; rintro w1 ⟨d1, rfl⟩ -
    go_wp2; refine only_normal ?_
    go_wp2
    (first | (refine bodyPost_end (results_none rfl _ _ _) rfl ?_) | (refine bodyPost_ret (results_none rfl _ _ _) rfl ?_))
    rw [hml.out]
    refine ⟨rfl, x', y', g2, k, c2 - k, cur.setIfInBounds 4 (.slice (some ⟨g2, k * 3, none⟩) (more t.S (smp e)).length (c2 - k)), hx, hy, ?_, ?_, ?_, ?_⟩
    · rw [hx]; (repeat (first | exact Ext.refl _ | assumption | refine Ext.alloc ?_ _ | refine Ext.ext ?_ _ | refine Ext.drew ?_))
    · rw [hx]
      refine own_join (W := w0) (d := x') (cur := cur.setIfInBounds 4 (.slice (some ⟨g2, k * 3, none⟩) (more t.S (smp e)).length (c2 - k))) (by (repeat (first | exact Ext.refl _ | assumption | refine Ext.alloc ?_ _ | refine Ext.ext ?_ _ | refine Ext.drew ?_))) rfl (by omega) (by rw [Array.size_setIfInBounds]; exact q1.out) q2 q3 ?_
      rw [Array.toList_setIfInBounds, List.take_set, q4.out]
    · exact (SmpIn.like (S := fun k => k = w0.heap.size + x'.size) (e' := 64) (by decide) (smpIn_more hown2.out hkd.out) (by (repeat (first | exact Like.refl _ _ | refine Like.ext ?_ _ | refine Like.alloc ?_ _ | refine Like.swap ?_ (by simp <;> omega) _ _))) (fun b hb => ⟨_, _, hb ▸ heap_at w0 x' _ (by (repeat (first | exact Ext.refl _ | assumption | refine Ext.alloc ?_ _ | refine Ext.ext ?_ _ | refine Ext.drew ?_)))⟩)).ext (Ext.ext (Ext.refl _) d1)
    · intro h cu fr hh hne
      have h3 := hk2.out h cu fr hh hne
      have h4 : h ≠ w0.heap.size + x'.size := by
        rintro rfl
        rw [heap_at w0 x' _ (by (repeat (first | exact Ext.refl _ | assumption | refine Ext.alloc ?_ _ | refine Ext.ext ?_ _ | refine Ext.drew ?_)))] at h3
        cases h3
      exact heap_some_ext ((Like.heap (S := fun k => k = w0.heap.size + x'.size) (by (repeat (first | exact Like.refl _ _ | refine Like.ext ?_ _ | refine Like.alloc ?_ _ | refine Like.swap ?_ (by simp <;> omega) _ _))) h h4).trans h3) (Ext.ext (Ext.refl _) d1)
  focus
    rw [hl] at hW hM ⊢
    simp only [Nat.zero_mul, Nat.zero_add, Nat.one_mul, Nat.reduceAdd] at p4 hx4 ⊢
    replace hl := Lib.hid hl
    subst hW
    go_enter Try.func60, Try.ntmps60
    go_wp2
    (refine wp_region_calm_ops [1, 2, 3, 4, 5, 6, 7, 8, 9] [10] [0] [11, 12, 13, 14] (by kernel_rfl) (by kernel_rfl) (by simp only [List.filterMap_cons, List.filterMap_nil, List.getElem?_toArray, List.getElem?_cons_succ, List.getElem?_cons_zero]; try exact rfl) (by simp only [List.filterMap_cons, List.filterMap_nil, List.getElem?_toArray, List.getElem?_cons_succ, List.getElem?_cons_zero]; try exact rfl) (by simp only [List.filterMap_cons, List.filterMap_nil, List.getElem?_toArray, List.getElem?_cons_succ, List.getElem?_cons_zero]; try exact rfl) ?_; (repeat (first | (refine ql_plain rfl rfl ?_; intro K hK; go_big_quiet_op; go_big_quiet_on) | (refine ql_nilCheck rfl rfl rfl ?_; intro K hK; simp only [Act.put, List.setIfInBounds_toArray, List.set_cons_succ, List.set_cons_zero]; go_big_quiet_on) | (refine ql_call (fun _ => (sample_any _ _ _ _ _ _ _)) rfl rfl Try.func53 rfl (by kernel_rfl) rfl ?_; intro K hK; simp only [Act.put, List.setIfInBounds_toArray, List.set_cons_succ, List.set_cons_zero]; go_big_quiet_on) | (refine ql_skip rfl ?_; intro K hK; simp only [Act.put, List.setIfInBounds_toArray, List.set_cons_succ, List.set_cons_zero]; go_big_quiet_on))); refine ql_nil ?_)
    refine mw1 (mk_sl (.cells #[.int .i64 e.X, .int .i64 e.Y, .int .i64 e.Time] 24) 1 (by simp only [List.getElem?_toArray, List.getElem?_cons_succ, List.getElem?_cons_zero]; try exact rfl) rfl (fun d => by go_simp)) ?_; intro u1 hu1 K hK; simp only [Act.put, List.setIfInBounds_toArray, List.set_cons_succ, List.set_cons_zero, List.getElem?_toArray, List.getElem?_cons_succ, List.getElem?_cons_zero, Option.bind_some]; refine hK _ ?_; clear hK K; (repeat (first | (refine pl_plain rfl rfl ?_; intro K hK; go_big_quiet_op; go_big_quiet_on) | (refine pl_nilCheck rfl rfl rfl ?_; intro K hK; simp only [Act.put, List.setIfInBounds_toArray, List.set_cons_succ, List.set_cons_zero]; go_big_quiet_on))); refine pl_nil ?_; rintro w1 he1 ⟨_, hf1⟩
    obtain ⟨b1, rfl, hf⟩ := hf1
    obtain ⟨d3, rfl⟩ := he1
    have hat := Lib.hid (cells_at0 hf rfl)
    clear hf
    refine wpList_append_row _ _ _ 57 24 _ 3 24 infoS Try.underlying57 rfl (by decide) w0.heap.size _ t.S.length (cellsS t.S) (ownsRow_ext hs.out (by (repeat (first | exact Ext.refl _ | assumption | refine Ext.alloc ?_ _ | refine Ext.ext ?_ _ | refine Ext.drew ?_)))) ⟨b1, 0, none⟩ 1 1 [.int .i64 e.X, .int .i64 e.Y, .int .i64 e.Time] (by decide) rfl hat.out (by simp [Value.oneCell']) (by unfold maxLen; omega) (by omega) (by simp <;> omega) rfl rfl rfl rfl ?_
    intro g2 c2 w2 hown2 hg2
    have hM2 := heap_grown hg2 (heap_some_ext hM.out (by (repeat (first | exact Ext.refl _ | assumption | refine Ext.alloc ?_ _ | refine Ext.ext ?_ _ | refine Ext.drew ?_)))) (own_ne' hs.out hM.out (by decide))
    have hB2 := heap_grown hg2 (heap_some_ext hB.out (by (repeat (first | exact Ext.refl _ | assumption | refine Ext.alloc ?_ _ | refine Ext.ext ?_ _ | refine Ext.drew ?_)))) (own_ne' hs.out hB.out (by decide))
    have hE2 := Ext.of_grown (hE.out.trans (by (repeat (first | exact Ext.refl _ | assumption | refine Ext.alloc ?_ _ | refine Ext.ext ?_ _ | refine Ext.drew ?_)))) hg2 (fun k hk => (hs.out.lt k hk).1)
    have hk2 := Lib.hid (hkeep.out _ _ (by (repeat (first | exact Ext.refl _ | assumption | refine Ext.alloc ?_ _ | refine Ext.ext ?_ _ | refine Ext.drew ?_))) hg2)
    obtain ⟨_, hc2, hm2, _⟩ : True ∧ t.S.length + 1 ≤ c2 ∧ c2 ≤ maxLen ∧ True := by
      obtain ⟨cu, hcu, _⟩ := row_heap hown2
      obtain ⟨_, h2, h3, _⟩ := row_cur hown2 hcu
      exact ⟨trivial, h2, h3, trivial⟩
    obtain ⟨x', y', z', hx, hy, hw2⟩ := lay3 hE2 hB2 hM2
    rw [hx] at hw2
    subst hw2
    replace hown2 := Lib.hid hown2
    clear hM2 hB2 hE2 hg2 hat hM hB hE hs hkeep
    simp only [hx, hy]
    go_wp2; refine only_normal ?_
    have g4 : (cur.setIfInBounds 9 (.slice (some ⟨g2, 0, none⟩) (t.S.length + 1) c2))[9]? = some (.slice (some ⟨g2, 0, none⟩) (t.S.length + 1) c2) := get_set_same _ _ _ (by have := q1.out; omega)
    obtain ⟨k, hkd⟩ : ∃ k, k = t.S.length + 1 - 8 := ⟨_, rfl⟩
    have hk : mx 0 ((t.S.length : Int) + 1 - 8) = (k : Int) := by unfold mx; split <;> omega
    have hk1 : (k : Int) ≤ (t.S.length : Int) + 1 := by omega
    have hk3 : ¬ c2 = k := by omega
    have hml : t.S.length + 1 - k = (more t.S (smp e)).length := by simp [more]; omega
    replace hkd := Lib.hid hkd
    replace hml := Lib.hid hml
    go_wp2_with fail
    (refine wp_region_calm_ops [0, 1, 2, 3, 4, 5, 6, 7, 8, 9, 10, 11, 12, 13, 14] [] [] [15] (by kernel_rfl) (by kernel_rfl) (by simp only [List.filterMap_cons, List.filterMap_nil, List.getElem?_toArray, List.getElem?_cons_succ, List.getElem?_cons_zero]; try exact rfl) (by simp only [List.filterMap_cons, List.filterMap_nil, List.getElem?_toArray, List.getElem?_cons_succ, List.getElem?_cons_zero]; try exact rfl) (by simp only [List.filterMap_cons, List.filterMap_nil, List.getElem?_toArray, List.getElem?_cons_succ, List.getElem?_cons_zero]; try exact rfl) ?_; (repeat (first | (refine ql_plain rfl rfl ?_; intro K hK; go_big_quiet_op; go_big_quiet_on) | (refine ql_nilCheck rfl rfl rfl ?_; intro K hK; simp only [Act.put, List.setIfInBounds_toArray, List.set_cons_succ, List.set_cons_zero]; go_big_quiet_on) | fail | (refine ql_skip rfl ?_; intro K hK; simp only [Act.put, List.setIfInBounds_toArray, List.set_cons_succ, List.set_cons_zero]; go_big_quiet_on))); refine ql_nil ?_)
    refine mw0 ?_; (repeat (first | (refine pl_plain rfl rfl ?_; intro K hK; go_big_quiet_op; go_big_quiet_on) | (refine pl_nilCheck rfl rfl rfl ?_; intro K hK; simp only [Act.put, List.setIfInBounds_toArray, List.set_cons_succ, List.set_cons_zero]; go_big_quiet_on))); refine pl_nil ?_; rintro w1 ⟨d1, rfl⟩ -
    go_wp2; refine only_normal ?_
    go_wp2
    (first | (refine bodyPost_end (results_none rfl _ _ _) rfl ?_) | (refine bodyPost_ret (results_none rfl _ _ _) rfl ?_))
    rw [hml.out]
    refine ⟨rfl, x', y', g2, k, c2 - k, cur.setIfInBounds 9 (.slice (some ⟨g2, k * 3, none⟩) (more t.S (smp e)).length (c2 - k)), hx, hy, ?_, ?_, ?_, ?_⟩
    · rw [hx]; (repeat (first | exact Ext.refl _ | assumption | refine Ext.alloc ?_ _ | refine Ext.ext ?_ _ | refine Ext.drew ?_))
    · rw [hx]
      refine own_join (W := w0) (d := x') (cur := cur.setIfInBounds 9 (.slice (some ⟨g2, k * 3, none⟩) (more t.S (smp e)).length (c2 - k))) (by (repeat (first | exact Ext.refl _ | assumption | refine Ext.alloc ?_ _ | refine Ext.ext ?_ _ | refine Ext.drew ?_))) rfl (by omega) (by rw [Array.size_setIfInBounds]; exact q1.out) q2 q3 ?_
      rw [Array.toList_setIfInBounds, List.take_set, q4.out]
    · exact (SmpIn.like (S := fun k => k = w0.heap.size + x'.size) (e' := 64) (by decide) (smpIn_more hown2.out hkd.out) (by (repeat (first | exact Like.refl _ _ | refine Like.ext ?_ _ | refine Like.alloc ?_ _ | refine Like.swap ?_ (by simp <;> omega) _ _))) (fun b hb => ⟨_, _, hb ▸ heap_at w0 x' _ (by (repeat (first | exact Ext.refl _ | assumption | refine Ext.alloc ?_ _ | refine Ext.ext ?_ _ | refine Ext.drew ?_)))⟩)).ext (Ext.ext (Ext.refl _) d1)
    · intro h cu fr hh hne
      have h3 := hk2.out h cu fr hh hne
      have h4 : h ≠ w0.heap.size + x'.size := by
        rintro rfl
        rw [heap_at w0 x' _ (by (repeat (first | exact Ext.refl _ | assumption | refine Ext.alloc ?_ _ | refine Ext.ext ?_ _ | refine Ext.drew ?_)))] at h3
        cases h3
      exact heap_some_ext ((Like.heap (S := fun k => k = w0.heap.size + x'.size) (by (repeat (first | exact Like.refl _ _ | refine Like.ext ?_ _ | refine Like.alloc ?_ _ | refine Like.swap ?_ (by simp <;> omega) _ _))) h h4).trans h3) (Ext.ext (Ext.refl _) d1)
end Go.Proofs.Ytendgmnbnnkpnaa.G
namespace Go.Proofs.Ytendgmnbnnkpnaa.G
open Go.RowKit
theorem mach_of {w0 w : World} {M : Nat} {r : Rec} {e : Ev} {ask : Int} {gs : List Ges} {a : Option Addr} {c : Nat} {o : Value} (he : Ext w0 w) (h0 : w0.heap.size ≤ M) (hh : w.heap[M]? = some (.cells #[.int .i64 (r).Kind, .int .i64 (r).Node, .int .i64 (r).State, .int .i64 (r).Count, .slice a (r).Ts.length c, .int .i64 (r).L.X, .int .i64 (r).L.Y, .int .i64 (r).L.T, .int .i64 (e).Kind, .int .i64 (e).ID, .int .i64 (e).X, .int .i64 (e).Y, .int .i64 (e).Time, .int .i64 (e).Wheel, .int .i64 ask, o] 82)) (ht : OwnR w w0.heap.size (.slice a r.Ts.length c) r.Ts) (hg : OwnG w w0.heap.size o gs) : Mach w0 w M r e ask gs := by
  obtain ⟨d, z, h1, h2⟩ := he.split hh h0
  exact ⟨d, a, c, o, h1, ⟨z, h2⟩, ht, hg⟩
theorem follow_m (w0 w : World) (M : Nat) (r : Rec) (e : Ev) (i : Nat) (t : Tch) (hr : ROk r) (hi : r.Ts[i]? = some t) (h : MachS w0 w M r e) :
    Calls Try.prog 60 #[.pointer (some ⟨M, 0, none⟩), .int .i64 i] w fun v w' => v = .returned (.tuple #[]) ∧ Mach w0 w' M { r with Ts := follow r.Ts i (smp e) } e 0 [] := by
  have hne : r.Ts ≠ [] := fun h0 => by rw [h0] at hi; cases hi
  obtain ⟨x, y, z, c, cur, rfl, hw, ht⟩ := h.lay hne
  have fin : ∀ (w' : World) (x' y' : Grow) (cur' : Array Value) (ts : List Tch), x.size = x'.size → y.size = y'.size → ts.length = r.Ts.length → Ext ((((w0.ext x').alloc (.cells cur' 64)).ext y').alloc (.cells #[.int .i64 (r).Kind, .int .i64 (r).Node, .int .i64 (r).State, .int .i64 (r).Count, .slice (some ⟨w0.heap.size + x.size, 0, none⟩) (r).Ts.length c, .int .i64 (r).L.X, .int .i64 (r).L.Y, .int .i64 (r).L.T, .int .i64 (e).Kind, .int .i64 (e).ID, .int .i64 (e).X, .int .i64 (e).Y, .int .i64 (e).Time, .int .i64 (e).Wheel, .int .i64 0, .slice none 0 0] 82)) w' →
      OwnR w' w0.heap.size (.slice (some ⟨w0.heap.size + x.size, 0, none⟩) ts.length c) ts → Mach w0 w' (w0.heap.size + x.size + 1 + y.size) { r with Ts := ts } e 0 [] := by
    intro w' x' y' cur' ts hx hy hl he ho
    refine mach_of (a := some ⟨w0.heap.size + x.size, 0, none⟩) (c := c) (o := .slice none 0 0) (Ext.trans ?_ he) (by omega) ?_ ho (OwnG.none _ _)
    · (repeat (first | exact Ext.refl _ | assumption | refine Ext.alloc ?_ _ | refine Ext.ext ?_ _ | refine Ext.drew ?_))
    · simp only [hl]
      refine heap_at' ((w0.ext x').alloc (.cells cur' 64)) y' _ ?_ he
      simp only [World.size_ext, World.size_alloc]
      omega
  rcases hr.shape with hs | ⟨t', hs, h1⟩ | ⟨t', u', hs, h1, h2, h7⟩
  · exact absurd hs hne
  · rw [hs] at hi
    have hi0 : i = 0 := by have := (List.getElem?_eq_some_iff.1 hi).1; simpa using this
    subst hi0
    obtain rfl : t' = t := by simpa using hi
    rw [hs] at ht
    obtain ⟨g, gc, hrow, hsm⟩ := ht
    refine (follow_core w0 x y z cur c r e 0 1 _ t' g gc h1 (by rw [hs]; rfl) (by simp) rfl w hw hrow hsm).mono ?_
    rintro v w' ⟨rfl, x', y', g2, k, c2, cur', hx, hy, he, hrow', hsm', hk⟩
    refine ⟨rfl, fin w' x' y' cur' _ hx hy (by rw [hs]; rfl) he ?_⟩
    rw [hs]
    exact ⟨g2, k * 3, c2, hrow', hsm'⟩
  · rw [hs] at hi
    have hi0 : i = 0 ∨ i = 1 := by have := (List.getElem?_eq_some_iff.1 hi).1; simp at this; omega
    rw [hs] at ht
    obtain ⟨g, gc, p, pc, hgp, hrow, hsm, hsu⟩ := ht
    rcases hi0 with rfl | rfl
    · obtain rfl : t' = t := by simpa using hi
      refine (follow_core w0 x y z cur c r e 0 2 _ t' g gc h1 (by rw [hs]; rfl) (by simp) rfl w hw hrow hsm).mono ?_
      rintro v w' ⟨rfl, x', y', g2, k, c2, cur', hx, hy, he, hrow', hsm', hk⟩
      refine ⟨rfl, fin w' x' y' cur' _ hx hy (by rw [hs]; rfl) he ?_⟩
      rw [hs]
      obtain ⟨cu, fr, hh, hc⟩ := hsu.inn h2.ne
      exact ⟨g2, k * 3, c2, p, 0, pc, hrow', hsm', cu, fr, hk p cu fr hh hgp.symm, hc⟩
    · obtain rfl : u' = t := by simpa using hi
      refine (follow_core w0 x y z cur c r e 1 2 _ u' p pc h2 (by rw [hs]; rfl) (by simp) rfl w hw hrow hsu).mono ?_
      rintro v w' ⟨rfl, x', y', g2, k, c2, cur', hx, hy, he, hrow', hsm', hk⟩
      refine ⟨rfl, fin w' x' y' cur' _ hx hy (by rw [hs]; rfl) he ?_⟩
      rw [hs]
      obtain ⟨cu, fr, hh, hc⟩ := hsm.inn h1.ne
      exact ⟨g, 0, gc, g2, k * 3, c2, hrow', ⟨cu, fr, hk g cu fr hh hgp, hc⟩, hsm'⟩
end Go.Proofs.Ytendgmnbnnkpnaa.G
