/- The reference: Feed, ticks, downs, events of no touch, cancels. -/
import Derived.Test.YtendgmnbnnkpnaaVK
import Derived.WalkKit
import Derived.WalkSpells
import Derived.WalkLawsBesides
import Derived.Deep.QuietTactic
import Derived.BigQuiet
import Derived.BigRegion
import Derived.Lib.Hide
import Derived.Deep.RegionWith
set_option linter.unusedSimpArgs false
set_option linter.unusedVariables false
namespace Go.Proofs.Ytendgmnbnnkpnaa.G
open Go.RowKit
/-- neither too late nor long enough -/
def InTime (r : Rec) (e : Ev) (a : Option Addr) (w : World) : Prop :=
  ((r.Kind == 1) = true ∧ (r.Kind == 3) = false ∧ rlate r e.Time = false) ∨ ((r.Kind == 1) = false ∧ (r.Kind == 2) = true ∧ (r.Kind == 3) = false ∧ rlate r e.Time = false) ∨
  ((r.Kind == 1) = false ∧ (r.Kind == 2) = false ∧ (r.Kind == 3) = true ∧ decide ((0 : Int) < (r.Ts.length : Int)) = false ∧ decide (0 < r.Ts.length) = false) ∨
  ((r.Kind == 1) = false ∧ (r.Kind == 2) = false ∧ (r.Kind == 3) = true ∧ decide ((0 : Int) < (r.Ts.length : Int)) = true ∧ decide (0 < r.Ts.length) = true ∧ 0 < r.Ts.length ∧ (0 : Int) < (r.Ts.length : Int) ∧ ∃ b off f, a = some ⟨b, off, none⟩ ∧ b < w.heap.size ∧ w.cell? ⟨b, off + 3, none⟩ = some (.int .i64 f) ∧ 0 ≤ f ∧ f ≤ 1099511627776 ∧ decide (500 ≤ e.Time - f) = false) ∨
  ((r.Kind == 1) = false ∧ (r.Kind == 2) = false ∧ (r.Kind == 3) = false)
theorem inTime {r : Rec} (h : ROk r) {e : Ev} {a : Option Addr} {w : World} (hr : RepT w a r.Ts) (hla : r.Kind ≤ 2 → rlate r e.Time = false) (hlo : r.Kind = 3 → ∀ t, r.Ts = [t] → e.Time - t.F.T < 500) : InTime r e a w := by
  have hk := h.kind
  by_cases h1 : r.Kind = 1
  · exact .inl ⟨by simp [h1], by simp [h1], hla (by omega)⟩
  by_cases h2 : r.Kind = 2
  · exact .inr (.inl ⟨by simp [h2], by simp [h2], by simp [h2], hla (by omega)⟩)
  by_cases h3 : r.Kind = 3
  · rcases h.shape with hs | ⟨t, hs, ht⟩ | ⟨t, u, hs, _, _, h7⟩
    · exact .inr (.inr (.inl ⟨by simp [h1], by simp [h2], by simp [h3], by simp [hs], by simp [hs]⟩))
    · rw [hs] at hr
      rcases hr with hr | ⟨b, off, rfl, hr⟩
      · cases hr
      obtain ⟨sb, so, sc, hm⟩ := hr.one
      obtain ⟨_, _, _, _, f1, f2⟩ := placed_bd ht.f
      have := hlo h3 t hs
      exact .inr (.inr (.inr (.inl ⟨by simp [h1], by simp [h2], by simp [h3], by simp [hs], by simp [hs], by simp [hs], by simp [hs], b, off, t.F.T, rfl, hm.lt, hm.c3, f1, f2, by simp; omega⟩)))
    · omega
  · exact .inr (.inr (.inr (.inr ⟨by simp [h1], by simp [h2], by simp [h3]⟩)))
section
variable (r : Rec) (h : ROk r) (e : Ev) (hv : valid e = true) (hd : deaf r = false) (ht : 0 ≤ e.Time ∧ e.Time ≤ 1099511627776) (a : Option Addr) (cap : Nat) (w : World) (hr : TsO w a cap r.Ts) (hco : InTime r e a w)
include h hv hd ht hr hco
set_option maxRecDepth 100000 in
set_option maxHeartbeats 4000000 in
theorem r_feed_tick (he : e.Kind = 5) : Calls Try.prog 50 #[.agg #[.int .i64 (r).Kind, .int .i64 (r).Node, .int .i64 (r).State, .int .i64 (r).Count, .slice a (r).Ts.length cap, .int .i64 (r).L.X, .int .i64 (r).L.Y, .int .i64 (r).L.T], .agg #[.int .i64 (e).Kind, .int .i64 (e).ID, .int .i64 (e).X, .int .i64 (e).Y, .int .i64 (e).Time, .int .i64 (e).Wheel]] w (RO (r, 0, []) w) := by
  have hva := Lib.hid (r_valid e); have hde := Lib.hid (r_deaf r); have hlt := Lib.hid fun w' (he : Ext w w') => r_late r h e.Time ht a cap w' (hr.rep.ext he); rw [hv] at hva; rw [hd] at hde; obtain ⟨ht1, ht2⟩ := ht; have hr2 := Lib.hid hr; have hm : r.Ts.length ≤ 9223372036854775807 := (by have := h.len; have := room_le r.Kind; omega); clear hr
  have e5 : (e.Kind == 5) = true := by simp [he]
  clear hv hd h he
  rcases hco with ⟨k1, k3, kl⟩ | ⟨k1, k2, k3, kl⟩ | ⟨k1, k2, k3, l1, l2⟩ | ⟨k1, k2, k3, l1, l2, l4, l5, b, off, f, rfl, hb, hc, f1, f2, l3⟩ | ⟨k1, k2, k3⟩
  all_goals
    (first | rw [kl] at hlt | skip); go_enter Try.func50, Try.ntmps50; (go_wp2_with fail; refine (hva.out _).mono ?_; rintro _ _ ⟨rfl, dv, rfl⟩); (go_wp2_with fail; refine (hde.out _ _ _).mono ?_; rintro _ _ ⟨rfl, dd, rfl⟩); (first | (go_wp2_with fail; refine (hlt.out _ ?_).mono ?_; (focus (repeat (first | exact Ext.refl _ | assumption | refine Ext.alloc ?_ _ | refine Ext.ext ?_ _ | refine Ext.drew ?_))); rintro _ _ ⟨rfl, dl, rfl⟩) | skip); clear hlt; go_wp2; (refine wp_region_ext (by kernel_rfl) (by kernel_rfl) ?_; (repeat (go_big_quiet_step ((fail)))); refine wpQuiet_nil ?_; intro _ hwq; obtain ⟨dq, hwq⟩ := hwq; subst hwq); go_wp2_with fail
    (refine bodyPost_ret (v := ?_) (by simp [results, Try.results50, go_sem]; rfl) rfl ?_)
    refine ⟨_, cap, none, 0, 0, rfl, ?_, hr2.out.ext ?_, OwnG.none _ _⟩ <;> (repeat (first | exact Ext.refl _ | assumption | refine Ext.alloc ?_ _ | refine Ext.ext ?_ _ | refine Ext.drew ?_))
set_option maxRecDepth 100000 in
set_option maxHeartbeats 4000000 in
theorem r_feed_none (he5 : e.Kind ≠ 5) (he1 : e.Kind ≠ 1) (hfi : fi r.Ts e.ID = -1) : Calls Try.prog 50 #[.agg #[.int .i64 (r).Kind, .int .i64 (r).Node, .int .i64 (r).State, .int .i64 (r).Count, .slice a (r).Ts.length cap, .int .i64 (r).L.X, .int .i64 (r).L.Y, .int .i64 (r).L.T], .agg #[.int .i64 (e).Kind, .int .i64 (e).ID, .int .i64 (e).X, .int .i64 (e).Y, .int .i64 (e).Time, .int .i64 (e).Wheel]] w (RO (r, 0, []) w) := by
  have hva := Lib.hid (r_valid e); have hde := Lib.hid (r_deaf r); have hlt := Lib.hid fun w' (he : Ext w w') => r_late r h e.Time ht a cap w' (hr.rep.ext he); rw [hv] at hva; rw [hd] at hde; obtain ⟨ht1, ht2⟩ := ht; have hr2 := Lib.hid hr; have hm : r.Ts.length ≤ 9223372036854775807 := (by have := h.len; have := room_le r.Kind; omega); clear hr
  have e5 : (e.Kind == 5) = false := by simp [he5]
  have e1 : (e.Kind == 1) = false := by simp [he1]
  have hto := fun w' (hr : RepT w' a r.Ts) => r_touch r h e.ID a cap w' hr
  rw [hfi] at hto
  replace hto := Lib.hid hto
  clear hv hd h he5 he1 hfi
  rcases hco with ⟨k1, k3, kl⟩ | ⟨k1, k2, k3, kl⟩ | ⟨k1, k2, k3, l1, l2⟩ | ⟨k1, k2, k3, l1, l2, l4, l5, b, off, f, rfl, hb, hc, f1, f2, l3⟩ | ⟨k1, k2, k3⟩
  all_goals
    (first | rw [kl] at hlt | skip); go_enter Try.func50, Try.ntmps50; (go_wp2_with fail; refine (hva.out _).mono ?_; rintro _ _ ⟨rfl, dv, rfl⟩); (go_wp2_with fail; refine (hde.out _ _ _).mono ?_; rintro _ _ ⟨rfl, dd, rfl⟩); (first | (go_wp2_with fail; refine (hlt.out _ ?_).mono ?_; (focus (repeat (first | exact Ext.refl _ | assumption | refine Ext.alloc ?_ _ | refine Ext.ext ?_ _ | refine Ext.drew ?_))); rintro _ _ ⟨rfl, dl, rfl⟩) | skip); clear hlt; go_wp2; (refine wp_region_ext (by kernel_rfl) (by kernel_rfl) ?_; (repeat (go_big_quiet_step ((fail)))); refine wpQuiet_nil ?_; intro _ hwq; obtain ⟨dq, hwq⟩ := hwq; subst hwq); go_wp2_with fail
    refine Calls.mono (hto.out _ (hr2.out.ext ?_).rep) ?_
    focus (repeat (first | exact Ext.refl _ | assumption | refine Ext.alloc ?_ _ | refine Ext.ext ?_ _ | refine Ext.drew ?_))
    rintro _ _ ⟨rfl, dt, rfl⟩
    go_wp2
    (refine bodyPost_ret (v := ?_) (by simp [results, Try.results50, go_sem]; rfl) rfl ?_)
    refine ⟨_, cap, none, 0, 0, rfl, ?_, hr2.out.ext ?_, OwnG.none _ _⟩ <;> (repeat (first | exact Ext.refl _ | assumption | refine Ext.alloc ?_ _ | refine Ext.ext ?_ _ | refine Ext.drew ?_))
end
end Go.Proofs.Ytendgmnbnnkpnaa.G
