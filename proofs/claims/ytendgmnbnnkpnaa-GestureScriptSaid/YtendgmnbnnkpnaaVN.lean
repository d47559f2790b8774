/- The reference: Feed, cancels. -/
import Derived.Test.YtendgmnbnnkpnaaVL
import Derived.WalkKit
import Derived.WalkSpells
import Derived.WalkLawsBesides
import Derived.Deep.QuietTactic
import Derived.BigQuiet
import Derived.BigRegion
import Derived.Lib.Hide
import Derived.Deep.RegionWith
set_option linter.unusedSimpArgs false
set_option linter.unusedVariables false
namespace Go.Proofs.Ytendgmnbnnkpnaa.G
open Go.RowKit
section
variable (r : Rec) (h : ROk r) (e : Ev) (hv : valid e = true) (hd : deaf r = false) (ht : 0 ≤ e.Time ∧ e.Time ≤ 1099511627776) (a : Option Addr) (cap : Nat) (w : World) (hr : TsO w a cap r.Ts) (hco : InTime r e a w)
include h hv hd ht hr hco
set_option maxRecDepth 100000 in
set_option maxHeartbeats 4000000 in
theorem r_feed_cancel (he : e.Kind = 4) (k : Nat) (hfi : fi r.Ts e.ID = (k : Int)) : Calls Try.prog 50 #[.agg #[.int .i64 (r).Kind, .int .i64 (r).Node, .int .i64 (r).State, .int .i64 (r).Count, .slice a (r).Ts.length cap, .int .i64 (r).L.X, .int .i64 (r).L.Y, .int .i64 (r).L.T], .agg #[.int .i64 (e).Kind, .int .i64 (e).ID, .int .i64 (e).X, .int .i64 (e).Y, .int .i64 (e).Time, .int .i64 (e).Wheel]] w (RO (if r.State = 3 then ((abort r).1, 0, (abort r).2) else fail r) w) := by
  have hab := Lib.hid fun w' (hr : RepT w' a r.Ts) => r_abort r h a cap w' hr
  have hf := Lib.hid fun w => r_fail r a cap w
  have hva := Lib.hid (r_valid e); have hde := Lib.hid (r_deaf r); have hlt := Lib.hid fun w' (he : Ext w w') => r_late r h e.Time ht a cap w' (hr.rep.ext he); rw [hv] at hva; rw [hd] at hde; obtain ⟨ht1, ht2⟩ := ht; have hr2 := Lib.hid hr; have hm : r.Ts.length ≤ 9223372036854775807 := (by have := h.len; have := room_le r.Kind; omega); clear hr
  have e5 : (e.Kind == 5) = false := by simp [he]
  have e1 : (e.Kind == 1) = false := by simp [he]
  have e4 : (e.Kind == 4) = true := by simp [he]
  have hto := fun w' (hr : RepT w' a r.Ts) => r_touch r h e.ID a cap w' hr
  rw [hfi] at hto
  replace hto := Lib.hid hto
  have bk : decide ((k : Int) < 0) = false := by simp
  by_cases h3 : r.State = 3
  · rw [if_pos h3]
    have s3 : (r.State == 3) = true := by simp [h3]
    obtain ⟨q, hq⟩ : ∃ q, q = abort r := ⟨_, rfl⟩
    rw [← hq] at hab ⊢
    simp only [recC] at hab
    clear hv hd h he hfi h3 hq
    rcases hco with ⟨k1, k3, kl⟩ | ⟨k1, k2, k3, kl⟩ | ⟨k1, k2, k3, l1, l2⟩ | ⟨k1, k2, k3, l1, l2, l4, l5, b, off, f, rfl, hb, hc, f1, f2, l3⟩ | ⟨k1, k2, k3⟩
    all_goals
      (first | rw [kl] at hlt | skip); go_enter Try.func50, Try.ntmps50; (go_wp2_with fail; refine (hva.out _).mono ?_; rintro _ _ ⟨rfl, dv, rfl⟩); (go_wp2_with fail; refine (hde.out _ _ _).mono ?_; rintro _ _ ⟨rfl, dd, rfl⟩); (first | (go_wp2_with fail; refine (hlt.out _ ?_).mono ?_; (focus (repeat (first | exact Ext.refl _ | assumption | refine Ext.alloc ?_ _ | refine Ext.ext ?_ _ | refine Ext.drew ?_))); rintro _ _ ⟨rfl, dl, rfl⟩) | skip); clear hlt; go_wp2; (refine wp_region_ext (by kernel_rfl) (by kernel_rfl) ?_; (repeat (go_big_quiet_step ((fail)))); refine wpQuiet_nil ?_; intro _ hwq; obtain ⟨dq, hwq⟩ := hwq; subst hwq); go_wp2_with fail
      refine Calls.mono (hto.out _ (hr2.out.ext ?_).rep) ?_
      focus (repeat (first | exact Ext.refl _ | assumption | refine Ext.alloc ?_ _ | refine Ext.ext ?_ _ | refine Ext.drew ?_))
      rintro _ _ ⟨rfl, dt, rfl⟩
      go_wp2_with fail
      refine Calls.mono (hab.out _ (hr2.out.ext ?_).rep) ?_
      focus (repeat (first | exact Ext.refl _ | assumption | refine Ext.alloc ?_ _ | refine Ext.ext ?_ _ | refine Ext.drew ?_))
      rintro _ _ ⟨xa, xc, v, rfl, ⟨xd, rfl⟩, xt, xg⟩
      obtain ⟨xva, xvn, xvc, rfl⟩ := xg.form
      replace xt := Lib.hid xt
      replace xg := Lib.hid xg
      go_wp2
      (refine bodyPost_ret (v := ?_) (by simp [results, Try.results50, go_sem]; rfl) rfl ?_)
      refine ⟨xa, xc, xva, xvn, xvc, rfl, ?_, (TsO.turn (xt.out.ext (Ext.alloc (Ext.refl _) _)) (b := w.heap.size + 1 + 1) (z := #[.int .i64 0, .int .i64 0, .int .i64 0, .int .i64 0, .slice none 0 0, .int .i64 0, .int .i64 0, .int .i64 0]) (by (repeat (first | exact Like.refl _ _ | refine Like.ext ?_ _ | refine Like.alloc ?_ _ | refine Like.swap ?_ (by simp <;> omega) _ _))) (by (repeat (first | (refine heap_new _ _ ?_; focus (first | with_reducible rfl | (simp only [World.size_ext, World.size_alloc]; done))) | refine heap_ext1 ?_ | refine heap_alloc1 ?_)))), (xg.out.ext (Ext.alloc (Ext.refl _) _)).turn (S := fun k => k < w.heap.size + 3) (by simp only [World.size_ext, World.size_alloc]; omega) (by (repeat (first | exact Like.refl _ _ | refine Like.ext ?_ _ | refine Like.alloc ?_ _ | refine Like.swap ?_ (by simp <;> omega) _ _))) (fun k hk => by simp only [World.size_ext, World.size_alloc] at hk; omega)⟩
      (repeat (first | exact Ext.refl _ | assumption | refine Ext.alloc ?_ _ | refine Ext.ext ?_ _ | refine Ext.drew ?_))
  · rw [if_neg h3]
    have s3 : (r.State == 3) = false := by simp [h3]
    clear hv hd h he hfi h3 hab
    rcases hco with ⟨k1, k3, kl⟩ | ⟨k1, k2, k3, kl⟩ | ⟨k1, k2, k3, l1, l2⟩ | ⟨k1, k2, k3, l1, l2, l4, l5, b, off, f, rfl, hb, hc, f1, f2, l3⟩ | ⟨k1, k2, k3⟩
    all_goals
      (first | rw [kl] at hlt | skip); go_enter Try.func50, Try.ntmps50; (go_wp2_with fail; refine (hva.out _).mono ?_; rintro _ _ ⟨rfl, dv, rfl⟩); (go_wp2_with fail; refine (hde.out _ _ _).mono ?_; rintro _ _ ⟨rfl, dd, rfl⟩); (first | (go_wp2_with fail; refine (hlt.out _ ?_).mono ?_; (focus (repeat (first | exact Ext.refl _ | assumption | refine Ext.alloc ?_ _ | refine Ext.ext ?_ _ | refine Ext.drew ?_))); rintro _ _ ⟨rfl, dl, rfl⟩) | skip); clear hlt; go_wp2; (refine wp_region_ext (by kernel_rfl) (by kernel_rfl) ?_; (repeat (go_big_quiet_step ((fail)))); refine wpQuiet_nil ?_; intro _ hwq; obtain ⟨dq, hwq⟩ := hwq; subst hwq); go_wp2_with fail
      refine Calls.mono (hto.out _ (hr2.out.ext ?_).rep) ?_
      focus (repeat (first | exact Ext.refl _ | assumption | refine Ext.alloc ?_ _ | refine Ext.ext ?_ _ | refine Ext.drew ?_))
      rintro _ _ ⟨rfl, dt, rfl⟩
      go_wp2_with fail; refine (hf.out _).mono ?_; rintro _ _ ⟨rfl, df, rfl⟩
      go_wp2
      (refine bodyPost_ret (v := ?_) (by simp [results, Try.results50, go_sem]; rfl) rfl ?_)
      refine ⟨none, 0, none, 0, 0, rfl, ?_, .inl rfl, OwnG.none _ _⟩
      (repeat (first | exact Ext.refl _ | assumption | refine Ext.alloc ?_ _ | refine Ext.ext ?_ _ | refine Ext.drew ?_))
end
end Go.Proofs.Ytendgmnbnnkpnaa.G
