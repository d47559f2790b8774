/- touch. -/
import Derived.Test.YtendgmnbnnkpnaaUI
import Derived.WalkKit
import Derived.WalkSpells
import Derived.WalkLawsBesides
import Derived.Deep.QuietTactic
import Derived.BigQuiet
import Derived.BigRegion
import Derived.Lib.Hide
import Derived.Deep.RegionWith
set_option linter.unusedSimpArgs false
set_option linter.unusedVariables false
namespace Go.Proofs.Ytendgmnbnnkpnaa.G
open Go.RowKit
theorem Mach.ext {w0 w w' : World} {M : Nat} {r : Rec} {e : Ev} {ask : Int} {gs : List Ges} (h : Mach w0 w M r e ask gs) (he : Ext w w') : Mach w0 w' M r e ask gs := by
  obtain ⟨d1, a, c, o, h1, h2, h3, h4⟩ := h
  exact ⟨d1, a, c, o, h1, h2.trans he, h3.ext he, h4.ext he⟩
/-- the machine's cells, read -/
theorem Mach.read {w0 w : World} {M : Nat} {r : Rec} {e : Ev} {ask : Int} {gs : List Ges} (h : Mach w0 w M r e ask gs) :
    ∃ a c o, M < w.heap.size ∧ (∀ j v, (#[.int .i64 (r).Kind, .int .i64 (r).Node, .int .i64 (r).State, .int .i64 (r).Count, .slice a (r).Ts.length c, .int .i64 (r).L.X, .int .i64 (r).L.Y, .int .i64 (r).L.T, .int .i64 (e).Kind, .int .i64 (e).ID, .int .i64 (e).X, .int .i64 (e).Y, .int .i64 (e).Time, .int .i64 (e).Wheel, .int .i64 ask, o] : Array Value)[j]? = some v → w.cell? ⟨M, j, none⟩ = some v) ∧ RepT w a r.Ts := by
  obtain ⟨d1, a, c, o, rfl, h2, h3, h4⟩ := h
  have hh := heap_at w0 d1 _ h2
  refine ⟨a, c, o, (Array.getElem?_eq_some_iff.1 hh).1, fun j v hv => ?_, h3.rep⟩
  simp only [World.cell?, hh]
  exact hv
def idx (r : Rec) (e : Ev) : Int := if e.Kind = 5 then -1 else match find r.Ts e.ID with | none => -1 | some i => (i : Int)
set_option maxHeartbeats 1000000 in
theorem touch_m (w0 w : World) (M : Nat) (r : Rec) (e : Ev) (ask : Int) (gs : List Ges) (hr : ROk r) (h : Mach w0 w M r e ask gs) :
    Calls Try.prog 57 #[.pointer (some ⟨M, 0, none⟩)] w fun x w' => x = .returned (.int .i64 (idx r e)) ∧ Ext w w' := by
  obtain ⟨a, c, o, hM, hc, ht⟩ := h.read
  have c4 : w.cell? ⟨M, 4, none⟩ = some (.slice a r.Ts.length c) := hc 4 _ rfl
  have c8 : w.cell? ⟨M, 8, none⟩ = some (.int .i64 e.Kind) := hc 8 _ rfl
  have c9 : w.cell? ⟨M, 9, none⟩ = some (.int .i64 e.ID) := hc 9 _ rfl
  clear hc h
  by_cases h5 : e.Kind = 5
  · have hw : idx r e = -1 := by simp [idx, h5]
    rw [hw]
    have hk : (e.Kind == 5) = true := by simpa using h5
    clear hw h5 ht
    go_enter Try.func57, Try.ntmps57
    go_wp2
    go_ret
    refine ⟨rfl, ?_⟩
    (repeat (first | exact Ext.refl _ | assumption | refine Ext.alloc ?_ _ | refine Ext.ext ?_ _ | refine Ext.drew ?_))
  · have hk : (e.Kind == 5) = false := by simpa using h5
    rcases hr.shape with hs | ⟨t, hs, h1⟩ | ⟨t, u, hs, h1, h2, h7⟩
    · have hw : idx r e = -1 := by simp [idx, h5, hs, find]
      rw [hw]
      rw [hs, List.length_nil] at c4
      clear hw h5 ht hs
      go_enter Try.func57, Try.ntmps57
      go_wp2
      refine wp_loop_rounds 1 ?_
      rw [rounds_succ]
      go_wp2
      go_ret
      refine ⟨rfl, ?_⟩
      (repeat (first | exact Ext.refl _ | assumption | refine Ext.alloc ?_ _ | refine Ext.ext ?_ _ | refine Ext.drew ?_))
    · rw [hs] at ht c4
      simp only [List.length_cons, List.length_nil, Nat.zero_add] at c4
      rcases ht with ht | ⟨b, off, rfl, ht⟩
      · cases ht
      obtain ⟨sb, so, sc, hm⟩ := ht.one
      have hb := hm.lt
      obtain ⟨p0, p1, p2, p3, p4, _⟩ := hm
      by_cases hid : t.ID = e.ID
      · have hw : idx r e = 0 := by simp [idx, h5, hs, find, hid, List.findIdx?_cons]
        rw [hw]
        have hi : (t.ID == e.ID) = true := by simpa using hid
        clear hw h5 hs hid
        go_enter Try.func57, Try.ntmps57
        go_wp2
        refine wp_loop_rounds 1 ?_
        rw [rounds_succ]
        go_wp2
        (refine wp_region_ext (by kernel_rfl) (by kernel_rfl) ?_; (repeat (go_big_quiet_step ((fail)))); refine wpQuiet_nil ?_; intro _ hwq; obtain ⟨dq, hwq⟩ := hwq; subst hwq)
        go_wp2
        go_ret
        refine ⟨rfl, ?_⟩
        (repeat (first | exact Ext.refl _ | assumption | refine Ext.alloc ?_ _ | refine Ext.ext ?_ _ | refine Ext.drew ?_))
      · have hw : idx r e = -1 := by simp [idx, h5, hs, find, hid, List.findIdx?_cons]
        rw [hw]
        have hi : (t.ID == e.ID) = false := by simpa using hid
        clear hw h5 hs hid
        go_enter Try.func57, Try.ntmps57
        go_wp2
        refine wp_loop_rounds 2 ?_
        rw [rounds_succ]
        go_wp2
        (refine wp_region_ext (by kernel_rfl) (by kernel_rfl) ?_; (repeat (go_big_quiet_step ((fail)))); refine wpQuiet_nil ?_; intro _ hwq; obtain ⟨dq, hwq⟩ := hwq; subst hwq)
        go_wp2
        rw [rounds_succ]
        go_wp2
        go_ret
        refine ⟨rfl, ?_⟩
        (repeat (first | exact Ext.refl _ | assumption | refine Ext.alloc ?_ _ | refine Ext.ext ?_ _ | refine Ext.drew ?_))
    · rw [hs] at ht c4
      simp only [List.length_cons, List.length_nil, Nat.zero_add] at c4
      rcases ht with ht | ⟨b, off, rfl, ht⟩
      · cases ht
      obtain ⟨sb, so, sc, ub, uo, uc, hm, hmu⟩ := ht.two
      have hb := hm.lt
      obtain ⟨p0, p1, p2, p3, p4, _⟩ := hm
      obtain ⟨q0, q1, q2, q3, q4, _⟩ := hmu
      simp only [Nat.add_assoc] at q1 q2 q3 q4
      by_cases hid : t.ID = e.ID
      · have hw : idx r e = 0 := by simp [idx, h5, hs, find, hid, List.findIdx?_cons]
        rw [hw]
        have hi : (t.ID == e.ID) = true := by simpa using hid
        clear hw h5 hs hid
        go_enter Try.func57, Try.ntmps57
        go_wp2
        refine wp_loop_rounds 1 ?_
        rw [rounds_succ]
        go_wp2
        (refine wp_region_ext (by kernel_rfl) (by kernel_rfl) ?_; (repeat (go_big_quiet_step ((fail)))); refine wpQuiet_nil ?_; intro _ hwq; obtain ⟨dq, hwq⟩ := hwq; subst hwq)
        go_wp2
        go_ret
        refine ⟨rfl, ?_⟩
        (repeat (first | exact Ext.refl _ | assumption | refine Ext.alloc ?_ _ | refine Ext.ext ?_ _ | refine Ext.drew ?_))
      · have hi : (t.ID == e.ID) = false := by simpa using hid
        by_cases hid2 : u.ID = e.ID
        · have hw : idx r e = 1 := by simp [idx, h5, hs, find, hid, hid2, List.findIdx?_cons]
          rw [hw]
          have hi2 : (u.ID == e.ID) = true := by simpa using hid2
          clear hw h5 hs hid hid2
          go_enter Try.func57, Try.ntmps57
          go_wp2
          refine wp_loop_rounds 2 ?_
          rw [rounds_succ]
          go_wp2
          (refine wp_region_ext (by kernel_rfl) (by kernel_rfl) ?_; (repeat (go_big_quiet_step ((fail)))); refine wpQuiet_nil ?_; intro _ hwq; obtain ⟨dq, hwq⟩ := hwq; subst hwq)
          go_wp2
          rw [rounds_succ]
          go_wp2
          (refine wp_region_ext (by kernel_rfl) (by kernel_rfl) ?_; (repeat (go_big_quiet_step ((fail)))); refine wpQuiet_nil ?_; intro _ hwq; obtain ⟨dq, hwq⟩ := hwq; subst hwq)
          go_wp2
          go_ret
          refine ⟨rfl, ?_⟩
          (repeat (first | exact Ext.refl _ | assumption | refine Ext.alloc ?_ _ | refine Ext.ext ?_ _ | refine Ext.drew ?_))
        · have hw : idx r e = -1 := by simp [idx, h5, hs, find, hid, hid2, List.findIdx?_cons]
          rw [hw]
          have hi2 : (u.ID == e.ID) = false := by simpa using hid2
          clear hw h5 hs hid hid2
          go_enter Try.func57, Try.ntmps57
          go_wp2
          refine wp_loop_rounds 3 ?_
          rw [rounds_succ]
          go_wp2
          (refine wp_region_ext (by kernel_rfl) (by kernel_rfl) ?_; (repeat (go_big_quiet_step ((fail)))); refine wpQuiet_nil ?_; intro _ hwq; obtain ⟨dq, hwq⟩ := hwq; subst hwq)
          go_wp2
          rw [rounds_succ]
          go_wp2
          (refine wp_region_ext (by kernel_rfl) (by kernel_rfl) ?_; (repeat (go_big_quiet_step ((fail)))); refine wpQuiet_nil ?_; intro _ hwq; obtain ⟨dq, hwq⟩ := hwq; subst hwq)
          go_wp2
          rw [rounds_succ]
          go_wp2
          go_ret
          refine ⟨rfl, ?_⟩
          (repeat (first | exact Ext.refl _ | assumption | refine Ext.alloc ?_ _ | refine Ext.ext ?_ _ | refine Ext.drew ?_))
end Go.Proofs.Ytendgmnbnnkpnaa.G
