/- The reference: Feed, what ends early. -/
import Derived.Test.YtendgmnbnnkpnaaVA
import Derived.Test.YtendgmnbnnkpnaaVE
import Derived.Test.YtendgmnbnnkpnaaUA
import Derived.WalkKit
import Derived.WalkSpells
import Derived.WalkLawsBesides
import Derived.Deep.QuietTactic
import Derived.BigQuiet
import Derived.BigRegion
import Derived.Lib.Hide
import Derived.Deep.RegionWith
set_option linter.unusedSimpArgs false
set_option linter.unusedVariables false
namespace Go.Proofs.Ytendgmnbnnkpnaa.G
open Go.RowKit
set_option maxRecDepth 100000 in
set_option maxHeartbeats 4000000 in
/-- an event that is not valid, or a recogniser that is deaf -/
theorem r_feed_deaf (r : Rec) (e : Ev) (hq : (!valid e || deaf r) = true) (a : Option Addr) (cap : Nat) (w : World) (hr : TsO w a cap r.Ts) :
    Calls Try.prog 50 #[.agg #[.int .i64 (r).Kind, .int .i64 (r).Node, .int .i64 (r).State, .int .i64 (r).Count, .slice a (r).Ts.length cap, .int .i64 (r).L.X, .int .i64 (r).L.Y, .int .i64 (r).L.T], .agg #[.int .i64 (e).Kind, .int .i64 (e).ID, .int .i64 (e).X, .int .i64 (e).Y, .int .i64 (e).Time, .int .i64 (e).Wheel]] w (RO (r, 0, []) w) := by
  have hva := Lib.hid (r_valid e)
  have hde := Lib.hid (r_deaf r)
  replace hr := Lib.hid hr
  rcases hv : valid e with _ | _
  · rw [hv] at hva
    clear hq hv
    go_enter Try.func50, Try.ntmps50
    go_wp2_with fail; refine (hva.out _).mono ?_; rintro _ _ ⟨rfl, dv, rfl⟩
    go_wp2
    (refine bodyPost_ret (v := ?_) (by simp [results, Try.results50, go_sem]; rfl) rfl ?_)
    refine ⟨a, cap, none, 0, 0, rfl, ?_, hr.out.ext ?_, OwnG.none _ _⟩ <;> (repeat (first | exact Ext.refl _ | assumption | refine Ext.alloc ?_ _ | refine Ext.ext ?_ _ | refine Ext.drew ?_))
  · have hd : deaf r = true := by simpa [hv] using hq
    rw [hv] at hva
    rw [hd] at hde
    clear hq hv hd
    go_enter Try.func50, Try.ntmps50
    go_wp2_with fail; refine (hva.out _).mono ?_; rintro _ _ ⟨rfl, dv, rfl⟩
    go_wp2_with fail; refine (hde.out _ _ _).mono ?_; rintro _ _ ⟨rfl, dd, rfl⟩
    go_wp2
    (refine bodyPost_ret (v := ?_) (by simp [results, Try.results50, go_sem]; rfl) rfl ?_)
    refine ⟨a, cap, none, 0, 0, rfl, ?_, hr.out.ext ?_, OwnG.none _ _⟩ <;> (repeat (first | exact Ext.refl _ | assumption | refine Ext.alloc ?_ _ | refine Ext.ext ?_ _ | refine Ext.drew ?_))
set_option maxRecDepth 100000 in
set_option maxHeartbeats 4000000 in
/-- a tap or a double tap that comes too late -/
theorem r_feed_late (r : Rec) (h : ROk r) (e : Ev) (hv : valid e = true) (hd : deaf r = false) (hk : r.Kind = 1 ∨ r.Kind = 2) (ht : 0 ≤ e.Time ∧ e.Time ≤ 1099511627776) (hla : rlate r e.Time = true) (a : Option Addr) (cap : Nat) (w : World) (hr : TsO w a cap r.Ts) :
    Calls Try.prog 50 #[.agg #[.int .i64 (r).Kind, .int .i64 (r).Node, .int .i64 (r).State, .int .i64 (r).Count, .slice a (r).Ts.length cap, .int .i64 (r).L.X, .int .i64 (r).L.Y, .int .i64 (r).L.T], .agg #[.int .i64 (e).Kind, .int .i64 (e).ID, .int .i64 (e).X, .int .i64 (e).Y, .int .i64 (e).Time, .int .i64 (e).Wheel]] w (RO (fail r) w) := by
  have hva := Lib.hid (r_valid e)
  have hde := Lib.hid (r_deaf r)
  have hlt := Lib.hid fun w' (he : Ext w w') => r_late r h e.Time ht a cap w' (hr.rep.ext he)
  have hf := Lib.hid fun w => r_fail r a cap w
  rw [hv] at hva
  rw [hd] at hde
  rw [hla] at hlt
  have hco : (r.Kind == 1) = true ∨ (r.Kind == 1) = false ∧ (r.Kind == 2) = true := by
    rcases hk with hk | hk
    · exact .inl (by simp [hk])
    · exact .inr ⟨by simp [hk], by simp [hk]⟩
  clear hv hd hk hla hr h
  rcases hco with k1 | ⟨k1, k2⟩
  all_goals
    go_enter Try.func50, Try.ntmps50
    go_wp2_with fail; refine (hva.out _).mono ?_; rintro _ _ ⟨rfl, dv, rfl⟩
    go_wp2_with fail; refine (hde.out _ _ _).mono ?_; rintro _ _ ⟨rfl, dd, rfl⟩
    go_wp2_with fail; refine (hlt.out _ ?_).mono ?_; (focus (repeat (first | exact Ext.refl _ | assumption | refine Ext.alloc ?_ _ | refine Ext.ext ?_ _ | refine Ext.drew ?_))); rintro _ _ ⟨rfl, dl, rfl⟩
    go_wp2_with fail; refine (hf.out _).mono ?_; rintro _ _ ⟨rfl, d2, rfl⟩
    go_wp2
    (refine bodyPost_ret (v := ?_) (by simp [results, Try.results50, go_sem]; rfl) rfl ?_)
    refine ⟨none, 0, none, 0, 0, rfl, ?_, .inl rfl, OwnG.none _ _⟩
    (repeat (first | exact Ext.refl _ | assumption | refine Ext.alloc ?_ _ | refine Ext.ext ?_ _ | refine Ext.drew ?_))
set_option maxRecDepth 100000 in
set_option maxHeartbeats 4000000 in
/-- a long press that succeeds -/
theorem r_feed_long (r : Rec) (h : ROk r) (t : Tch) (hs : r.Ts = [t]) (h1 : TOk t) (e : Ev) (hv : valid e = true) (hd : deaf r = false) (hk : r.Kind = 3) (ht : 0 ≤ e.Time ∧ e.Time ≤ 1099511627776) (hla : 500 ≤ e.Time - t.F.T) (a : Option Addr) (cap : Nat) (w : World) (hr : TsO w a cap r.Ts) :
    Calls Try.prog 50 #[.agg #[.int .i64 (r).Kind, .int .i64 (r).Node, .int .i64 (r).State, .int .i64 (r).Count, .slice a (r).Ts.length cap, .int .i64 (r).L.X, .int .i64 (r).L.Y, .int .i64 (r).L.T], .agg #[.int .i64 (e).Kind, .int .i64 (e).ID, .int .i64 (e).X, .int .i64 (e).Y, .int .i64 (e).Time, .int .i64 (e).Wheel]] w (RO (succeed r ⟨t.F.X, t.F.Y, e.Time⟩ 1) w) := by
  have hva := Lib.hid (r_valid e)
  have hde : ∀ (a : Option Addr) (cap : Nat) (w : World), _ := fun a cap w => r_deaf r a cap w
  have hp : placed ⟨t.F.X, t.F.Y, e.Time⟩ = true := by
    have := h1.f
    simp only [placed, btw, decide_eq_true_eq, Bool.and_eq_true] at this ⊢
    exact ⟨this.1, ht⟩
  have hsu : ∀ (a : Option Addr) (cap : Nat) (w : World), TsO w a cap r.Ts → _ := fun a cap w hr => r_succeed r h ⟨t.F.X, t.F.Y, e.Time⟩ hp 1 a cap w hr
  have hrep := hr.rep
  rw [hs] at hrep
  rcases hrep with hrep | ⟨b, off, rfl, hrep⟩
  · cases hrep
  obtain ⟨sb, so, sc, hm⟩ := hrep.one
  have hb := hm.lt
  obtain ⟨p0, p1, p2, p3, p4, _⟩ := hm
  obtain ⟨_, _, _, _, f1, f2⟩ := placed_bd h1.f
  obtain ⟨ht1, ht2⟩ := ht
  have hL : r.Ts.length = 1 := by rw [hs]; rfl
  rw [hv] at hva
  simp only [hd, hL] at hde hsu ⊢
  obtain ⟨q, hq⟩ : ∃ q, q = succeed r ⟨t.F.X, t.F.Y, e.Time⟩ 1 := ⟨_, rfl⟩
  simp only [← hq] at hsu ⊢
  replace hde := Lib.hid hde
  replace hsu := Lib.hid hsu
  replace hr := Lib.hid hr
  have b1 : (r.Kind == 1) = false := by simp [hk]
  have b2 : (r.Kind == 2) = false := by simp [hk]
  have b3 : (r.Kind == 3) = true := by simp [hk]
  have bl : decide (500 ≤ e.Time - t.F.T) = true := by simpa using hla
  clear hv hd hk hla h hp hq h1 hs hL
  go_enter Try.func50, Try.ntmps50
  go_wp2_with fail; refine (hva.out _).mono ?_; rintro _ _ ⟨rfl, dv, rfl⟩
  go_wp2_with fail; refine (hde.out _ _ _).mono ?_; rintro _ _ ⟨rfl, dd, rfl⟩
  go_wp2
  (refine wp_region_ext (by kernel_rfl) (by kernel_rfl) ?_; (repeat (go_big_quiet_step ((fail)))); refine wpQuiet_nil ?_; intro _ hwq; obtain ⟨dq, hwq⟩ := hwq; subst hwq)
  go_wp2_with fail
  refine Calls.mono (hsu.out _ _ _ (hr.out.ext ?_)) ?_
  focus (repeat (first | exact Ext.refl _ | assumption | refine Ext.alloc ?_ _ | refine Ext.ext ?_ _ | refine Ext.drew ?_))
  intro ex wx ho
  obtain ⟨xa, xc, xva, xvn, xvc, xd, rfl, rfl, xt, xg⟩ := ho.out
  replace xt := Lib.hid xt
  replace xg := Lib.hid xg
  clear ho
  go_wp2
  (refine bodyPost_ret (v := ?_) (by simp [results, Try.results50, go_sem]; rfl) rfl ?_)
  refine ⟨xa, xc, xva, xvn, xvc, rfl, ?_, TsO.turn xt.out (b := w.heap.size + 1 + 1) (z := #[.int .i64 0, .int .i64 0, .int .i64 0, .int .i64 0, .slice none 0 0, .int .i64 0, .int .i64 0, .int .i64 0]) (by (repeat (first | exact Like.refl _ _ | refine Like.ext ?_ _ | refine Like.alloc ?_ _ | refine Like.swap ?_ (by simp <;> omega) _ _))) (by (repeat (first | (refine heap_new _ _ ?_; focus (first | with_reducible rfl | (simp only [World.size_ext, World.size_alloc]; done))) | refine heap_ext1 ?_ | refine heap_alloc1 ?_))), xg.out.turn (S := fun k => k < w.heap.size + 3) (by simp only [World.size_ext, World.size_alloc]; omega) (by (repeat (first | exact Like.refl _ _ | refine Like.ext ?_ _ | refine Like.alloc ?_ _ | refine Like.swap ?_ (by simp <;> omega) _ _))) (fun k hk => by simp only [World.size_ext, World.size_alloc] at hk; omega)⟩
  (repeat (first | exact Ext.refl _ | assumption | refine Ext.alloc ?_ _ | refine Ext.ext ?_ _ | refine Ext.drew ?_))
end Go.Proofs.Ytendgmnbnnkpnaa.G
