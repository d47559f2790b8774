/- The reference: still. -/
import Derived.Test.YtendgmnbnnkpnaaVA
import Derived.WalkKit
import Derived.WalkSpells
import Derived.WalkLawsBesides
import Derived.Deep.QuietTactic
import Derived.BigQuiet
import Derived.BigRegion
import Derived.Lib.Hide
import Derived.Deep.RegionWith
set_option linter.unusedSimpArgs false
set_option linter.unusedVariables false
namespace Go.Proofs.Ytendgmnbnnkpnaa.G
open Go.RowKit
theorem RO.out {q : Rec × Int × List Ges} {w : World} {e : Ending} {w' : World} (h : RO q w e w') : ∃ a c va vn vc d, e = .returned (.tuple #[.agg #[.int .i64 (q.1).Kind, .int .i64 (q.1).Node, .int .i64 (q.1).State, .int .i64 (q.1).Count, .slice a (q.1).Ts.length c, .int .i64 (q.1).L.X, .int .i64 (q.1).L.Y, .int .i64 (q.1).L.T], .int .i64 q.2.1, .slice va vn vc]) ∧ w' = w.ext d ∧ TsO w' a c q.1.Ts ∧ OwnG w' w.heap.size (.slice va vn vc) q.2.2 := by
  obtain ⟨a, c, va, vn, vc, rfl, ⟨d, rfl⟩, h1, h2⟩ := h
  exact ⟨a, c, va, vn, vc, d, rfl, rfl, h1, h2⟩
set_option maxRecDepth 100000 in
set_option maxHeartbeats 4000000 in
theorem r_still3 (r : Rec) (h : ROk r) (t : Tch) (hs : r.Ts = [t]) (h1 : TOk t) (hk : r.Kind = 1 ∨ r.Kind = 2 ∨ r.Kind = 3) (e : Ev) (he : e.Kind = 2 ∨ e.Kind = 3) (hp : placed (smp e) = true) (a : Option Addr) (cap : Nat) (w : World) (hr : TsO w a cap r.Ts) :
    Calls Try.prog 80 #[.agg #[.int .i64 (r).Kind, .int .i64 (r).Node, .int .i64 (r).State, .int .i64 (r).Count, .slice a (r).Ts.length cap, .int .i64 (r).L.X, .int .i64 (r).L.Y, .int .i64 (r).L.T], .int .i64 e.Kind, .agg #[.int .i64 e.X, .int .i64 e.Y, .int .i64 e.Time]] w (RO (still r e) w) := by
  have hrep := hr.rep
  have hsu := fun ask a cap w (hr : TsO w a cap r.Ts) => r_succeed r h (smp e) hp ask a cap w hr
  have hd := Lib.hid fun w' => r_dist (smp e) t.F hp h1.f w'
  obtain ⟨D1, D2⟩ := dist_bd hp h1.f
  rw [hs] at hrep
  rcases hrep with hrep | ⟨b, off, rfl, hrep⟩
  · cases hrep
  obtain ⟨sb, so, sc, hm⟩ := hrep.one
  have hb := hm.lt
  obtain ⟨p0, p1, p2, p3, p4, _⟩ := hm
  have hw : still r e = (if 8 < dist (smp e) t.F then fail r else if e.Kind = 2 then (r, 0, []) else if r.Kind = 3 then fail r else if r.Kind = 2 ∧ r.Count = 0 then ({ r with Count := 1, L := smp e, Ts := [] }, 3, []) else ({ (succeed r (smp e) (if r.Kind = 2 then 1 else 0)).1 with Ts := [] }, (succeed r (smp e) (if r.Kind = 2 then 1 else 0)).2.1, (succeed r (smp e) (if r.Kind = 2 then 1 else 0)).2.2)) := by simp only [still, hs]
  rw [hw]
  clear hw
  have b8 : (r.Kind != 8) = true := by simp; omega
  have hl : r.Ts.length = 1 := by rw [hs]; rfl
  have hf : ∀ (a : Option Addr) (cap : Nat) (w : World), _ := fun a cap w => r_fail r a cap w
  simp only [hl] at hsu hf ⊢
  have hl' := Lib.hid hl
  replace hf := Lib.hid hf
  obtain ⟨D, hD⟩ : ∃ D, dist (smp e) t.F = D := ⟨_, rfl⟩
  rw [hD] at hd D1 D2 ⊢
  clear hD
  simp only [smp] at hd hsu ⊢
  replace hsu := Lib.hid hsu
  have hr' := Lib.hid hr
  clear hr h hp h1 hl hs
  rcases d8 : decide (8 < D) with _ | _
  · have d8' : ¬ 8 < D := by simpa using d8
    rw [if_neg d8']
    clear d8'
    rcases he with he | he
    · have e2 : (e.Kind == 2) = true := by simp [he]
      rw [if_pos he]
      clear he hk
      go_enter Try.func80, Try.ntmps80
      go_wp2_with fail; refine (hd.out _).mono ?_; rintro _ _ ⟨rfl, d, rfl⟩
      go_wp2
      (refine bodyPost_ret (v := ?_) (by simp [results, Try.results80, go_sem]; rfl) rfl ?_)
      refine ⟨_, cap, none, 0, 0, by simp only [hl'.out], ?_, hr'.out.ext ?_, OwnG.none _ _⟩ <;> (repeat (first | exact Ext.refl _ | assumption | refine Ext.alloc ?_ _ | refine Ext.ext ?_ _ | refine Ext.drew ?_))
    · have e2 : (e.Kind == 2) = false := by simp [he]
      rw [if_neg (show ¬ e.Kind = 2 by omega)]
      clear he
      rcases hk with hk | hk | hk
      · have b1 : (r.Kind == 1) = true := by simp [hk]
        rw [if_neg (show ¬ r.Kind = 3 by omega), if_neg (show ¬ (r.Kind = 2 ∧ r.Count = 0) by omega), if_neg (show ¬ r.Kind = 2 by omega)]
        obtain ⟨q, hq⟩ : ∃ q, q = succeed r ⟨e.X, e.Y, e.Time⟩ 0 := ⟨_, rfl⟩
        have hsu0 := Lib.hid (hsu.out 0)
        simp only [← hq] at hsu0 ⊢
        clear hk hq hsu
        go_enter Try.func80, Try.ntmps80
        go_wp2_with fail; refine (hd.out _).mono ?_; rintro _ _ ⟨rfl, d, rfl⟩
        go_wp2_with fail; refine (hsu0.out _ _ _ (hr'.out.ext (by (repeat (first | exact Ext.refl _ | assumption | refine Ext.alloc ?_ _ | refine Ext.ext ?_ _ | refine Ext.drew ?_))))).mono ?_; intro ex wx ho; obtain ⟨xa, xc, xva, xvn, xvc, xd, rfl, rfl, xt, xg⟩ := ho.out; replace xt := Lib.hid xt; replace xg := Lib.hid xg; clear ho
        go_wp2
        (refine bodyPost_ret (v := ?_) (by simp [results, Try.results80, go_sem]; rfl) rfl ?_)
        refine ⟨none, 0, xva, xvn, xvc, rfl, ?_, .inl rfl, (xg.out.ext (Ext.alloc (Ext.refl _) _)).turn (S := fun k => k < w.heap.size + 4) (by simp only [World.size_ext, World.size_alloc]; omega) (by (repeat (first | exact Like.refl _ _ | refine Like.ext ?_ _ | refine Like.alloc ?_ _ | refine Like.swap ?_ (by simp <;> omega) _ _))) (fun k hk => by simp only [World.size_ext, World.size_alloc] at hk; omega)⟩
        (repeat (first | exact Ext.refl _ | assumption | refine Ext.alloc ?_ _ | refine Ext.ext ?_ _ | refine Ext.drew ?_))
      · have b1 : (r.Kind == 1) = false := by simp [hk]
        have b2 : (r.Kind == 2) = true := by simp [hk]
        rw [if_neg (show ¬ r.Kind = 3 by omega), if_pos hk]
        rcases c0 : (r.Count == 0) with _ | _
        · rw [if_neg (show ¬ (r.Kind = 2 ∧ r.Count = 0) by intro h; simp [h.2] at c0)]
          obtain ⟨q, hq⟩ : ∃ q, q = succeed r ⟨e.X, e.Y, e.Time⟩ 1 := ⟨_, rfl⟩
          have hsu0 := Lib.hid (hsu.out 1)
          simp only [← hq] at hsu0 ⊢
          clear hk hq hsu
          go_enter Try.func80, Try.ntmps80
          go_wp2_with fail; refine (hd.out _).mono ?_; rintro _ _ ⟨rfl, d, rfl⟩
          go_wp2_with fail; refine (hsu0.out _ _ _ (hr'.out.ext (by (repeat (first | exact Ext.refl _ | assumption | refine Ext.alloc ?_ _ | refine Ext.ext ?_ _ | refine Ext.drew ?_))))).mono ?_; intro ex wx ho; obtain ⟨xa, xc, xva, xvn, xvc, xd, rfl, rfl, xt, xg⟩ := ho.out; replace xt := Lib.hid xt; replace xg := Lib.hid xg; clear ho
          go_wp2
          (refine bodyPost_ret (v := ?_) (by simp [results, Try.results80, go_sem]; rfl) rfl ?_)
          refine ⟨none, 0, xva, xvn, xvc, rfl, ?_, .inl rfl, (xg.out.ext (Ext.alloc (Ext.refl _) _)).turn (S := fun k => k < w.heap.size + 4) (by simp only [World.size_ext, World.size_alloc]; omega) (by (repeat (first | exact Like.refl _ _ | refine Like.ext ?_ _ | refine Like.alloc ?_ _ | refine Like.swap ?_ (by simp <;> omega) _ _))) (fun k hk => by simp only [World.size_ext, World.size_alloc] at hk; omega)⟩
          (repeat (first | exact Ext.refl _ | assumption | refine Ext.alloc ?_ _ | refine Ext.ext ?_ _ | refine Ext.drew ?_))
        · rw [if_pos (show r.Kind = 2 ∧ r.Count = 0 from ⟨hk, by simpa using c0⟩)]
          clear hk hsu
          go_enter Try.func80, Try.ntmps80
          go_wp2_with fail; refine (hd.out _).mono ?_; rintro _ _ ⟨rfl, d, rfl⟩
          go_wp2
          go_region
          go_wp2
          (refine bodyPost_ret (v := ?_) (by simp [results, Try.results80, go_sem]; rfl) rfl ?_)
          refine ⟨none, 0, none, 0, 0, rfl, ?_, .inl rfl, OwnG.none _ _⟩
          (repeat (first | exact Ext.refl _ | assumption | refine Ext.alloc ?_ _ | refine Ext.ext ?_ _ | refine Ext.drew ?_))
      · have b1 : (r.Kind == 1) = false := by simp [hk]
        have b2 : (r.Kind == 2) = false := by simp [hk]
        have b3 : (r.Kind == 8) = false := by simp [hk]
        rw [if_pos hk]
        clear hk hsu
        go_enter Try.func80, Try.ntmps80
        go_wp2_with fail; refine (hd.out _).mono ?_; rintro _ _ ⟨rfl, d, rfl⟩
        go_wp2_with fail; refine (hf.out _ _ _).mono ?_; rintro _ _ ⟨rfl, d2, rfl⟩
        go_wp2
        (refine bodyPost_ret (v := ?_) (by simp [results, Try.results80, go_sem]; rfl) rfl ?_)
        refine ⟨none, 0, none, 0, 0, rfl, ?_, .inl rfl, OwnG.none _ _⟩
        (repeat (first | exact Ext.refl _ | assumption | refine Ext.alloc ?_ _ | refine Ext.ext ?_ _ | refine Ext.drew ?_))
  · have d8' : 8 < D := by simpa using d8
    rw [if_pos d8']
    clear d8' hk he
    go_enter Try.func80, Try.ntmps80
    go_wp2_with fail; refine (hd.out _).mono ?_; rintro _ _ ⟨rfl, d, rfl⟩
    go_wp2_with fail; refine (hf.out _ _ _).mono ?_; rintro _ _ ⟨rfl, d2, rfl⟩
    go_wp2
    (refine bodyPost_ret (v := ?_) (by simp [results, Try.results80, go_sem]; rfl) rfl ?_)
    refine ⟨none, 0, none, 0, 0, rfl, ?_, .inl rfl, OwnG.none _ _⟩
    (repeat (first | exact Ext.refl _ | assumption | refine Ext.alloc ?_ _ | refine Ext.ext ?_ _ | refine Ext.drew ?_))
set_option maxRecDepth 100000 in
set_option maxHeartbeats 4000000 in
theorem r_still8 (r : Rec) (h : ROk r) (t : Tch) (hs : r.Ts = [t]) (h1 : TOk t) (hk : r.Kind = 8) (e : Ev) (he : e.Kind = 2 ∨ e.Kind = 3) (hp : placed (smp e) = true) (a : Option Addr) (cap : Nat) (w : World) (hr : TsO w a cap r.Ts) :
    Calls Try.prog 80 #[.agg #[.int .i64 (r).Kind, .int .i64 (r).Node, .int .i64 (r).State, .int .i64 (r).Count, .slice a (r).Ts.length cap, .int .i64 (r).L.X, .int .i64 (r).L.Y, .int .i64 (r).L.T], .int .i64 e.Kind, .agg #[.int .i64 e.X, .int .i64 e.Y, .int .i64 e.Time]] w (RO (throw_ r e) w) := by
  have hrep := hr.rep
  have hsu := fun ask a cap w (hr : TsO w a cap r.Ts) => r_succeed r h (smp e) hp ask a cap w hr
  have hf : ∀ (a : Option Addr) (cap : Nat) (w : World), _ := fun a cap w => r_fail r a cap w
  rw [hs] at hrep
  rcases hrep with hrep | ⟨b, off, rfl, hrep⟩
  · cases hrep
  obtain ⟨sb, so, sc, hm⟩ := hrep.one
  have hb := hm.lt
  have hv := Lib.hid fun w' (he : Ext w w') => r_vel_t t sb so sc w' h1 (hm.ss.ext he)
  obtain ⟨p0, p1, p2, p3, p4, _⟩ := hm
  obtain ⟨⟨v1, v2⟩, v3, v4⟩ := vel_bd t.S
  have hw : throw_ r e = (if e.Kind = 2 then (r, 0, []) else if mx (mx (mx (vel t.S).1 (-(vel t.S).1)) (vel t.S).2) (-(vel t.S).2) < 400 then fail r else succeed r (smp e) 1) := by simp only [throw_, hs]
  rw [hw]
  clear hw
  have b8 : (r.Kind != 8) = false := by simp [hk]
  have b8' : (r.Kind == 8) = true := by simp [hk]
  have b1 : (r.Kind == 1) = false := by simp [hk]
  have b2 : (r.Kind == 2) = false := by simp [hk]
  have hl : r.Ts.length = 1 := by rw [hs]; rfl
  simp only [hl] at hsu hf ⊢
  have hl' := Lib.hid hl
  replace hf := Lib.hid hf
  simp only [smp] at hsu ⊢
  replace hsu := Lib.hid hsu
  have hr' := Lib.hid hr
  clear hr h hp h1 hl hs hk
  generalize vel t.S = V at *
  rcases he with he | he
  · have e2 : (e.Kind == 2) = true := by simp [he]
    rw [if_pos he]
    clear he
    go_enter Try.func80, Try.ntmps80
    go_wp2
    (refine bodyPost_ret (v := ?_) (by simp [results, Try.results80, go_sem]; rfl) rfl ?_)
    refine ⟨_, cap, none, 0, 0, by simp only [hl'.out], ?_, hr'.out.ext ?_, OwnG.none _ _⟩ <;> (repeat (first | exact Ext.refl _ | assumption | refine Ext.alloc ?_ _ | refine Ext.ext ?_ _ | refine Ext.drew ?_))
  · have e2 : (e.Kind == 2) = false := by simp [he]
    rw [if_neg (show ¬ e.Kind = 2 by omega)]
    clear he
    by_cases hd : mx (mx (mx V.1 (-V.1)) V.2) (-V.2) < 400
    · have d1 : decide (400 ≤ mx (mx (mx V.1 (-V.1)) V.2) (-V.2)) = false := by simpa using hd
      rw [if_pos hd]
      clear hd
      go_enter Try.func80, Try.ntmps80
      go_wp2_with fail; refine (hv.out _ (by (repeat (first | exact Ext.refl _ | assumption | refine Ext.alloc ?_ _ | refine Ext.ext ?_ _ | refine Ext.drew ?_)))).mono ?_; rintro _ _ ⟨rfl, d, rfl⟩
      go_wp2_with fail; refine (hf.out _ _ _).mono ?_; rintro _ _ ⟨rfl, d2, rfl⟩
      go_wp2
      (refine bodyPost_ret (v := ?_) (by simp [results, Try.results80, go_sem]; rfl) rfl ?_)
      refine ⟨none, 0, none, 0, 0, rfl, ?_, .inl rfl, OwnG.none _ _⟩
      (repeat (first | exact Ext.refl _ | assumption | refine Ext.alloc ?_ _ | refine Ext.ext ?_ _ | refine Ext.drew ?_))
    · have d1 : decide (400 ≤ mx (mx (mx V.1 (-V.1)) V.2) (-V.2)) = true := by simp; omega
      rw [if_neg hd]
      clear hd
      obtain ⟨q, hq⟩ : ∃ q, q = succeed r ⟨e.X, e.Y, e.Time⟩ 1 := ⟨_, rfl⟩
      have hsu0 := Lib.hid (hsu.out 1)
      simp only [← hq] at hsu0 ⊢
      clear hq hsu
      go_enter Try.func80, Try.ntmps80
      go_wp2_with fail; refine (hv.out _ (by (repeat (first | exact Ext.refl _ | assumption | refine Ext.alloc ?_ _ | refine Ext.ext ?_ _ | refine Ext.drew ?_)))).mono ?_; rintro _ _ ⟨rfl, d, rfl⟩
      go_wp2_with fail; refine (hsu0.out _ _ _ (hr'.out.ext (by (repeat (first | exact Ext.refl _ | assumption | refine Ext.alloc ?_ _ | refine Ext.ext ?_ _ | refine Ext.drew ?_))))).mono ?_; intro ex wx ho; obtain ⟨xa, xc, xva, xvn, xvc, xd, rfl, rfl, xt, xg⟩ := ho.out; replace xt := Lib.hid xt; replace xg := Lib.hid xg; clear ho
      go_wp2
      (refine bodyPost_ret (v := ?_) (by simp [results, Try.results80, go_sem]; rfl) rfl ?_)
      refine ⟨xa, xc, xva, xvn, xvc, rfl, ?_, xt.out.turn (b := ((w.alloc (.cells #[.int .i64 r.Kind, .int .i64 r.Node, .int .i64 r.State, .int .i64 r.Count, .slice (some ⟨b, off, none⟩) 1 cap, .int .i64 r.L.X, .int .i64 r.L.Y, .int .i64 r.L.T] 26)).alloc (.cells #[.int .i64 e.X, .int .i64 e.Y, .int .i64 e.Time] 24)).heap.size) (by (repeat (first | exact Like.refl _ _ | refine Like.ext ?_ _ | refine Like.alloc ?_ _ | refine Like.swap ?_ (by simp <;> omega) _ _))) (heap_some_ext (heap_alloc_new ((w.alloc (.cells #[.int .i64 r.Kind, .int .i64 r.Node, .int .i64 r.State, .int .i64 r.Count, .slice (some ⟨b, off, none⟩) 1 cap, .int .i64 r.L.X, .int .i64 r.L.Y, .int .i64 r.L.T] 26)).alloc (.cells #[.int .i64 e.X, .int .i64 e.Y, .int .i64 e.Time] 24)) _) (by (repeat (first | exact Ext.refl _ | assumption | refine Ext.alloc ?_ _ | refine Ext.ext ?_ _ | refine Ext.drew ?_)))), xg.out.turn (S := fun k => k < w.heap.size + 4) (by simp only [World.size_ext, World.size_alloc]; omega) (by (repeat (first | exact Like.refl _ _ | refine Like.ext ?_ _ | refine Like.alloc ?_ _ | refine Like.swap ?_ (by simp <;> omega) _ _))) (fun k hk => by simp only [World.size_ext, World.size_alloc] at hk; omega)⟩
      (repeat (first | exact Ext.refl _ | assumption | refine Ext.alloc ?_ _ | refine Ext.ext ?_ _ | refine Ext.drew ?_))
end Go.Proofs.Ytendgmnbnnkpnaa.G
