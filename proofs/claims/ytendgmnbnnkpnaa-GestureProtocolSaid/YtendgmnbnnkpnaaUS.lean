/- The reference: once, deaf, late, fail, touch. The reference: touch, late (printed by r4.py). -/
import Derived.Test.YtendgmnbnnkpnaaUR
import Derived.Test.YtendgmnbnnkpnaaUH
import Derived.WalkKit
import Derived.WalkSpells
import Derived.WalkLawsBesides
import Derived.Deep.QuietTactic
import Derived.BigQuiet
import Derived.BigRegion
import Derived.Lib.Hide
import Derived.Deep.RegionWith
set_option linter.unusedSimpArgs false
set_option linter.unusedVariables false
namespace Go.Proofs.Ytendgmnbnnkpnaa.G
open Go.RowKit
theorem ownG_new (W : World) (g : Ges) {B k : Nat} (hk : k = W.heap.size) (hB : B ≤ k) : OwnG (W.alloc (.cells #[.int .i64 (g).Kind, .int .i64 (g).Node, .int .i64 (g).Phase, .int .i64 (g).X, .int .i64 (g).Y, .int .i64 (g).DX, .int .i64 (g).DY, .int .i64 (g).Scale, .int .i64 (g).VX, .int .i64 (g).VY] 49)) B (.slice (some ⟨k, 0, none⟩) 1 1) [g] := ownG_one (by rw [hk]; exact heap_alloc_new _ _) hB
theorem r_vel_t (t : Tch) (sb so cap : Nat) (w : World) (h : TOk t) (hs : SsAt w sb so t.S) :
    Calls Try.prog 25 #[.slice (some ⟨sb, so, none⟩) t.S.length cap] w fun e w' =>
      e = .returned (.tuple #[.int .i64 (vel t.S).1, .int .i64 (vel t.S).2]) ∧ Ext w w' :=
  r_vel_any cap sb so t.S w (List.length_pos_iff.2 h.ne) (by have := h.len; omega) hs
set_option maxHeartbeats 1000000 in
theorem r_once (r : Rec) (h : ROk r) (a : Option Addr) (cap : Nat) (w : World) (hr : RepT w a r.Ts) :
    Calls Try.prog 71 #[.agg #[.int .i64 (r).Kind, .int .i64 (r).Node, .int .i64 (r).State, .int .i64 (r).Count, .slice a (r).Ts.length cap, .int .i64 (r).L.X, .int .i64 (r).L.Y, .int .i64 (r).L.T]] w fun e w' => ∃ v, e = .returned v ∧ Ext w w' ∧ OwnG w' w.heap.size v [onceG r] := by
  by_cases h8 : r.Kind = 8
  · have b8 : (r.Kind == 8) = true := by simp [h8]
    rcases h.shape with ht | ⟨t, ht, h1⟩ | ⟨t, u, ht, h1, h2, h7⟩
    · have hg : onceG r = ⟨r.Kind, r.Node, 1, r.L.X, r.L.Y, 0, 0, 1000, 0, 0⟩ := by simp [onceG, ht]
      rw [hg, ht]
      simp only [List.length_nil]
      clear hr ht hg h8 h
      go_enter Try.func71, Try.ntmps71
      go_wp2
      go_ret
      refine ⟨_, rfl, ?_, ownG_new _ ⟨_, _, _, _, _, _, _, _, _, _⟩ (by simp only [World.size_ext, World.size_alloc]) (by omega)⟩
      (repeat (first | exact Ext.refl _ | assumption | refine Ext.alloc ?_ _ | refine Ext.ext ?_ _ | refine Ext.drew ?_))
    · have hg : onceG r = ⟨r.Kind, r.Node, 1, r.L.X, r.L.Y, 0, 0, 1000, (vel t.S).1, (vel t.S).2⟩ := by simp [onceG, ht, h8]
      rw [hg]
      rw [ht] at hr ⊢
      rcases hr with hr | ⟨b, off, rfl, hr⟩
      · cases hr
      obtain ⟨sb, so, sc, hm⟩ := hr.one
      have hb := hm.lt
      have hv := Lib.hid fun w' (he : Ext w w') => r_vel_t t sb so sc w' h1 (hm.ss.ext he)
      obtain ⟨c0, c1, c2, c3, c4, _⟩ := hm
      simp only [List.length_cons, List.length_nil, Nat.zero_add]
      clear ht hg h8 h
      go_enter Try.func71, Try.ntmps71
      go_wp2_with fail
      refine (hv.out _ (by (repeat (first | exact Ext.refl _ | assumption | refine Ext.alloc ?_ _ | refine Ext.ext ?_ _ | refine Ext.drew ?_)))).mono ?_
      rintro x w1 ⟨rfl, dv, rfl⟩
      go_wp2
      go_ret
      refine ⟨_, rfl, ?_, ownG_new _ ⟨_, _, _, _, _, _, _, _, _, _⟩ (by simp only [World.size_ext, World.size_alloc]) (by omega)⟩
      (repeat (first | exact Ext.refl _ | assumption | refine Ext.alloc ?_ _ | refine Ext.ext ?_ _ | refine Ext.drew ?_))
    · omega
  · have b8 : (r.Kind == 8) = false := by simp [h8]
    have hg : onceG r = ⟨r.Kind, r.Node, 1, r.L.X, r.L.Y, 0, 0, 1000, 0, 0⟩ := by simp [onceG, h8]
    rw [hg]
    clear hr hg h8 h
    go_enter Try.func71, Try.ntmps71
    go_wp2
    go_ret
    refine ⟨_, rfl, ?_, ownG_new _ ⟨_, _, _, _, _, _, _, _, _, _⟩ (by simp only [World.size_ext, World.size_alloc]) (by omega)⟩
    (repeat (first | exact Ext.refl _ | assumption | refine Ext.alloc ?_ _ | refine Ext.ext ?_ _ | refine Ext.drew ?_))
theorem r_deaf (r : Rec) (a : Option Addr) (cap : Nat) (w : World) :
    Calls Try.prog 73 #[.agg #[.int .i64 (r).Kind, .int .i64 (r).Node, .int .i64 (r).State, .int .i64 (r).Count, .slice a (r).Ts.length cap, .int .i64 (r).L.X, .int .i64 (r).L.Y, .int .i64 (r).L.T]] w fun e w' => e = .returned (.bool (deaf r)) ∧ Ext w w' := by
  have hd : deaf r = ((r.State == 4) || ((r.State == 2) && !cont r.Kind)) := by
    rw [Bool.eq_iff_iff]; simp [deaf]
  rw [hd]
  clear hd
  rcases b4 : (r.State == 4) with _ | _ <;> rcases b2 : (r.State == 2) with _ | _
  all_goals
    go_enter Try.func73, Try.ntmps73
    go_wp2_with (go_at_call 69; refine (r_dragging _ _).mono ?_; rintro e w' ⟨rfl, rfl⟩)
    go_ret
    refine ⟨by simp, ?_⟩
    (repeat (first | exact Ext.refl _ | assumption | refine Ext.alloc ?_ _ | refine Ext.ext ?_ _ | refine Ext.drew ?_))
theorem r_fail (r : Rec) (a : Option Addr) (cap : Nat) (w : World) :
    Calls Try.prog 75 #[.agg #[.int .i64 (r).Kind, .int .i64 (r).Node, .int .i64 (r).State, .int .i64 (r).Count, .slice a (r).Ts.length cap, .int .i64 (r).L.X, .int .i64 (r).L.Y, .int .i64 (r).L.T]] w fun e w' => e = .returned (.tuple #[.agg #[.int .i64 r.Kind, .int .i64 r.Node, .int .i64 4, .int .i64 r.Count, .slice none 0 0, .int .i64 r.L.X, .int .i64 r.L.Y, .int .i64 r.L.T], .int .i64 (fail r).2.1, .slice none 0 0]) ∧ Ext w w' := by
  have hd : (fail r).2.1 = if (r.State == 1 || r.State == 2) = true then 2 else 0 := by simp [fail]
  rw [hd]
  clear hd
  rcases b1 : (r.State == 1) with _ | _ <;> rcases b2 : (r.State == 2) with _ | _
  all_goals
    simp only [Bool.or_self, Bool.or_true, Bool.true_or, Bool.false_or, Bool.or_false, if_true, Bool.false_eq_true, if_false]
    go_enter Try.func75, Try.ntmps75
    go_wp2_with (go_at_call 46; refine (r_over _ _ _ _ _ _ _ _ _ _ _).mono ?_; rintro e w' ⟨rfl, d, rfl⟩)
    (refine bodyPost_ret (v := ?_) (by simp [results, Try.results75, go_sem]; rfl) rfl ?_)
    refine ⟨rfl, ?_⟩
    (repeat (first | exact Ext.refl _ | assumption | refine Ext.alloc ?_ _ | refine Ext.ext ?_ _ | refine Ext.drew ?_))
end Go.Proofs.Ytendgmnbnnkpnaa.G
namespace Go.Proofs.Ytendgmnbnnkpnaa.G
open Go.RowKit
def fi (ts : List Tch) (id : Int) : Int := match find ts id with | some i => i | none => -1
def rlate (r : Rec) (t : Int) : Bool := match r.Ts with | [] => (r.Kind == 2) && ((r.Count == 1) && decide (300 < t - r.L.T)) | u :: _ => decide (300 < t - u.F.T)
set_option maxHeartbeats 1000000 in
theorem r_touch (r : Rec) (h : ROk r) (id : Int) (a : Option Addr) (cap : Nat) (w : World) (hr : RepT w a r.Ts) :
    Calls Try.prog 78 #[.agg #[.int .i64 (r).Kind, .int .i64 (r).Node, .int .i64 (r).State, .int .i64 (r).Count, .slice a (r).Ts.length cap, .int .i64 (r).L.X, .int .i64 (r).L.Y, .int .i64 (r).L.T], .int .i64 id] w fun e w' => e = .returned (.int .i64 (fi r.Ts id)) ∧ Ext w w' := by
  rcases h.shape with hs | ⟨t, hs, h1⟩ | ⟨t, u, hs, h1, h2, h7⟩
  · rw [hs, show fi [] id = -1 from rfl]
    simp only [List.length_nil]
    clear hr hs h
    go_enter Try.func78, Try.ntmps78
    go_wp2
    refine wp_loop_rounds 1 ?_
    rw [rounds_succ]
    go_wp2
    go_ret
    refine ⟨rfl, ?_⟩
    (repeat (first | exact Ext.refl _ | assumption | refine Ext.alloc ?_ _ | refine Ext.ext ?_ _ | refine Ext.drew ?_))
  · rw [hs] at hr ⊢
    rcases hr with hr | ⟨b, off, rfl, hr⟩
    · cases hr
    obtain ⟨sb, so, sc, hm⟩ := hr.one
    have hb := hm.lt
    obtain ⟨p0, p1, p2, p3, p4, _⟩ := hm
    simp only [List.length_cons, List.length_nil, Nat.zero_add]
    by_cases hid : t.ID = id
    · have hi : (t.ID == id) = true := by simpa using hid
      have hw : fi r.Ts id = 0 := by simp [fi, hs, find, List.findIdx?_cons, hid]
      rw [hs] at hw
      rw [hw]
      clear hw
      go_enter Try.func78, Try.ntmps78
      go_wp2
      refine wp_loop_rounds 1 ?_
      rw [rounds_succ]
      go_wp2
      go_ret
      refine ⟨rfl, ?_⟩
      (repeat (first | exact Ext.refl _ | assumption | refine Ext.alloc ?_ _ | refine Ext.ext ?_ _ | refine Ext.drew ?_))
    · have hi : (t.ID == id) = false := by simpa using hid
      have hw : fi r.Ts id = -1 := by simp [fi, hs, find, List.findIdx?_cons, hid]
      rw [hs] at hw
      rw [hw]
      clear hw
      go_enter Try.func78, Try.ntmps78
      go_wp2
      refine wp_loop_rounds 2 ?_
      rw [rounds_succ]
      go_wp2
      rw [rounds_succ]
      go_wp2
      go_ret
      refine ⟨rfl, ?_⟩
      (repeat (first | exact Ext.refl _ | assumption | refine Ext.alloc ?_ _ | refine Ext.ext ?_ _ | refine Ext.drew ?_))
  · rw [hs] at hr ⊢
    rcases hr with hr | ⟨b, off, rfl, hr⟩
    · cases hr
    obtain ⟨sb, so, sc, ub, uo, uc, hm, hmu⟩ := hr.two
    have hb := hm.lt
    obtain ⟨p0, p1, p2, p3, p4, _⟩ := hm
    obtain ⟨q0, q1, q2, q3, q4, _⟩ := hmu
    simp only [Nat.add_assoc] at q1 q2 q3 q4
    simp only [List.length_cons, List.length_nil, Nat.zero_add]
    by_cases hid : t.ID = id
    · have hi : (t.ID == id) = true := by simpa using hid
      have hw : fi r.Ts id = 0 := by simp [fi, hs, find, List.findIdx?_cons, hid]
      rw [hs] at hw
      rw [hw]
      clear hw
      go_enter Try.func78, Try.ntmps78
      go_wp2
      refine wp_loop_rounds 1 ?_
      rw [rounds_succ]
      go_wp2
      go_ret
      refine ⟨rfl, ?_⟩
      (repeat (first | exact Ext.refl _ | assumption | refine Ext.alloc ?_ _ | refine Ext.ext ?_ _ | refine Ext.drew ?_))
    · have hi : (t.ID == id) = false := by simpa using hid
      by_cases hid2 : u.ID = id
      · have hi2 : (u.ID == id) = true := by simpa using hid2
        have hw : fi r.Ts id = 1 := by simp [fi, hs, find, List.findIdx?_cons, hid, hid2]
        rw [hs] at hw
        rw [hw]
        clear hw
        go_enter Try.func78, Try.ntmps78
        go_wp2
        refine wp_loop_rounds 2 ?_
        rw [rounds_succ]
        go_wp2
        rw [rounds_succ]
        go_wp2
        go_ret
        refine ⟨rfl, ?_⟩
        (repeat (first | exact Ext.refl _ | assumption | refine Ext.alloc ?_ _ | refine Ext.ext ?_ _ | refine Ext.drew ?_))
      · have hi2 : (u.ID == id) = false := by simpa using hid2
        have hw : fi r.Ts id = -1 := by simp [fi, hs, find, List.findIdx?_cons, hid, hid2]
        rw [hs] at hw
        rw [hw]
        clear hw
        go_enter Try.func78, Try.ntmps78
        go_wp2
        refine wp_loop_rounds 3 ?_
        rw [rounds_succ]
        go_wp2
        rw [rounds_succ]
        go_wp2
        rw [rounds_succ]
        go_wp2
        go_ret
        refine ⟨rfl, ?_⟩
        (repeat (first | exact Ext.refl _ | assumption | refine Ext.alloc ?_ _ | refine Ext.ext ?_ _ | refine Ext.drew ?_))
set_option maxHeartbeats 1000000 in
theorem r_late (r : Rec) (h : ROk r) (t : Int) (ht : 0 ≤ t ∧ t ≤ 1099511627776) (a : Option Addr) (cap : Nat) (w : World) (hr : RepT w a r.Ts) :
    Calls Try.prog 74 #[.agg #[.int .i64 (r).Kind, .int .i64 (r).Node, .int .i64 (r).State, .int .i64 (r).Count, .slice a (r).Ts.length cap, .int .i64 (r).L.X, .int .i64 (r).L.Y, .int .i64 (r).L.T], .int .i64 t] w fun e w' => e = .returned (.bool (rlate r t)) ∧ Ext w w' := by
  have hL := h.last
  simp only [placed, btw, decide_eq_true_eq, Bool.and_eq_true] at hL
  obtain ⟨ht1, ht2⟩ := ht
  obtain ⟨_, hL1, hL2⟩ := hL
  rcases hs : r.Ts with _ | ⟨f, ts⟩
  · have hw : rlate r t = ((r.Kind == 2) && ((r.Count == 1) && decide (300 < t - r.L.T))) := by simp [rlate, hs]
    rw [hw]
    simp only [List.length_nil]
    clear hw hr hs h
    rcases b1 : (r.Kind == 2) with _ | _ <;> rcases b2 : (r.Count == 1) with _ | _ <;> rcases b3 : decide (300 < t - r.L.T) with _ | _
    all_goals
      go_enter Try.func74, Try.ntmps74
      go_wp2
      go_ret
      refine ⟨rfl, ?_⟩
      (repeat (first | exact Ext.refl _ | assumption | refine Ext.alloc ?_ _ | refine Ext.ext ?_ _ | refine Ext.drew ?_))
  · have hw : rlate r t = decide (300 < t - f.F.T) := by simp [rlate, hs]
    rw [hw]
    have hf := (h.ts f (by rw [hs]; simp)).f
    simp only [placed, btw, decide_eq_true_eq, Bool.and_eq_true] at hf
    obtain ⟨_, hf1, hf2⟩ := hf
    rw [hs] at hr
    rcases hr with hr | ⟨b, off, rfl, hr⟩
    · cases hr
    obtain ⟨sb, so, sc, hm⟩ := hr 0 f rfl
    have hb := hm.lt
    obtain ⟨p0, p1, p2, p3, p4, _⟩ := hm
    simp only [Nat.zero_mul, Nat.add_zero] at p0 p1 p2 p3 p4
    obtain ⟨n, hn⟩ : ∃ n, n = ts.length := ⟨_, rfl⟩
    have b0 : decide (0 < ((n + 1 : Nat) : Int)) = true := by simp <;> omega
    simp only [List.length_cons]
    rw [← hn]
    clear hw hs h hn
    rcases b3 : decide (300 < t - f.F.T) with _ | _
    all_goals
      go_enter Try.func74, Try.ntmps74
      go_wp2
      go_ret
      refine ⟨rfl, ?_⟩
      (repeat (first | exact Ext.refl _ | assumption | refine Ext.alloc ?_ _ | refine Ext.ext ?_ _ | refine Ext.drew ?_))
end Go.Proofs.Ytendgmnbnnkpnaa.G
