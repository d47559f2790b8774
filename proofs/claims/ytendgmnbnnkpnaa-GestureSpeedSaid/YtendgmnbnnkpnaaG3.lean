/- Touches in memory; the functions that only read a recogniser, walked. -/
import Derived.Test.YtendgmnbnnkpnaaG2
import Derived.WalkKit
import Derived.WalkSpells
import Derived.WalkLawsBesides
import Derived.Deep.QuietTactic
import Derived.BigQuiet
import Derived.BigRegion
import Derived.Lib.Hide
import Derived.Deep.RegionWith
set_option linter.unusedSimpArgs false
set_option linter.unusedVariables false
namespace Go.Proofs.Ytendgmnbnnkpnaa.G
open Go.RowKit

/-- a touch lies at a place; its samples lie at (sb, so) -/
structure TchAt (w : World) (b o : Nat) (t : Tch) (sb so cap : Nat) : Prop where
  c0 : w.cell? ⟨b, o, none⟩ = some (.int .i64 t.ID)
  c1 : w.cell? ⟨b, o + 1, none⟩ = some (.int .i64 t.F.X)
  c2 : w.cell? ⟨b, o + 2, none⟩ = some (.int .i64 t.F.Y)
  c3 : w.cell? ⟨b, o + 3, none⟩ = some (.int .i64 t.F.T)
  c4 : w.cell? ⟨b, o + 4, none⟩ = some (.slice (some ⟨sb, so, none⟩) t.S.length cap)
  ss : SsAt w sb so t.S
theorem TchAt.lt {w : World} {b o : Nat} {t : Tch} {sb so cap : Nat} (h : TchAt w b o t sb so cap) : b < w.heap.size := World.block_lt_of_cell? w ⟨b, o, none⟩ h.c0
theorem TchAt.ext {w w' : World} {b o : Nat} {t : Tch} {sb so cap : Nat} (h : TchAt w b o t sb so cap) (he : Ext w w') : TchAt w' b o t sb so cap :=
  ⟨he.cell_some h.c0, he.cell_some h.c1, he.cell_some h.c2, he.cell_some h.c3, he.cell_some h.c4, h.ss.ext he⟩
theorem latest_eq (t : Tch) (h : t.S ≠ []) : latest t = nth t.S (t.S.length - 1) := by
  have hl : 0 < t.S.length := List.length_pos_iff.2 h
  unfold latest
  rw [List.getLastD_eq_getLast?, last_eq _ hl]; rfl
theorem latest_placed {t : Tch} (h : TOk t) : placed (latest t) = true := by
  have hl : 0 < t.S.length := List.length_pos_iff.2 h.ne
  rw [latest_eq t h.ne]
  exact h.s _ (by rw [nth_eq _ _ (by omega)]; exact List.getElem_mem _)
theorem dist_bd {s t : Smp} (hs : placed s = true) (ht : placed t = true) : 0 ≤ dist s t ∧ dist s t ≤ 2097152 := by
  have h1 := placed_bd hs
  have h2 := placed_bd ht
  unfold dist
  constructor
  · have := @lt_mx (mx (mx (s.X - t.X) (-(s.X - t.X))) (s.Y - t.Y)) (-(s.Y - t.Y)) (-1)
    have h3 := @lt_mx (mx (s.X - t.X) (-(s.X - t.X))) (s.Y - t.Y) (-1)
    have h4 := @lt_mx (s.X - t.X) (-(s.X - t.X)) (-1)
    omega
  · simp only [mx_le]; omega
set_option maxHeartbeats 400000 in
theorem latest_t (t : Tch) (sb so cap : Nat) (w : World) (h : TOk t) (hs : SsAt w sb so t.S) :
    Calls Try.prog 65 #[.agg #[.int .i64 t.ID, .int .i64 t.F.X, .int .i64 t.F.Y, .int .i64 t.F.T, .slice (some ⟨sb, so, none⟩) t.S.length cap]] w fun e w' =>
      e = .returned (.agg #[.int .i64 (latest t).X, .int .i64 (latest t).Y, .int .i64 (latest t).T]) ∧ Ext w w' := by
  have hl : 0 < t.S.length := List.length_pos_iff.2 h.ne
  rw [latest_eq t h.ne]
  exact latest_any _ _ _ _ _ _ _ _ _ hl (by have := h.len; omega) hs

set_option maxHeartbeats 400000 in
theorem movement_nil (k n s c lx ly lt : Int) (a : Option Addr) (cap : Nat) (w : World) :
    Calls Try.prog 66 #[.agg #[.int .i64 k, .int .i64 n, .int .i64 s, .int .i64 c, .slice a 0 cap, .int .i64 lx, .int .i64 ly, .int .i64 lt]] w fun e w' =>
      e = .returned (.tuple #[.int .i64 0, .int .i64 0]) ∧ Ext w w' := by
  go_enter Try.func66, Try.ntmps66
  go_wp2
  go_ret2
  refine ⟨rfl, ?_⟩
  (repeat (first | exact Ext.refl _ | assumption | refine Ext.alloc ?_ _ | refine Ext.ext ?_ _ | refine Ext.drew ?_))
set_option maxHeartbeats 400000 in
theorem movement_any (k n s c lx ly lt : Int) (len b off cap : Nat) (t : Tch) (sb so scap : Nat) (w : World) (hl : 0 < len) (hl' : len ≤ 1000) (h : TOk t) (hm : TchAt w b off t sb so scap) :
    Calls Try.prog 66 #[.agg #[.int .i64 k, .int .i64 n, .int .i64 s, .int .i64 c, .slice (some ⟨b, off, none⟩) len cap, .int .i64 lx, .int .i64 ly, .int .i64 lt]] w fun e w' =>
      e = .returned (.tuple #[.int .i64 ((latest t).X - t.F.X), .int .i64 ((latest t).Y - t.F.Y)]) ∧ Ext w w' := by
  have hz : ((len : Int) == 0) = false := by simp; omega
  have hb := hm.lt
  have hlt := fun w' (he : Ext w w') => latest_t t sb so scap w' h (hm.ss.ext he)
  have b1 := placed_bd h.f
  have b2 := placed_bd (latest_placed h)
  obtain ⟨c0, c1, c2, c3, c4, _⟩ := hm
  replace hlt := Lib.hid hlt
  generalize latest t = z at *
  go_enter Try.func66, Try.ntmps66
  go_wp2_with (go_at_call 65; refine (hlt.out _ (by (repeat (first | exact Ext.refl _ | assumption | refine Ext.alloc ?_ _ | refine Ext.ext ?_ _ | refine Ext.drew ?_)))).mono ?_; rintro e w' ⟨rfl, d, rfl⟩)
  (refine wp_region_ext (by kernel_rfl) (by kernel_rfl) ?_; (repeat (go_big_quiet_step ((fail)))); refine wpQuiet_nil ?_; intro _ hwq; obtain ⟨dq, hwq⟩ := hwq; subst hwq)
  go_wp2
  go_ret2
  refine ⟨rfl, ?_⟩
  (repeat (first | exact Ext.refl _ | assumption | refine Ext.alloc ?_ _ | refine Ext.ext ?_ _ | refine Ext.drew ?_))

set_option maxHeartbeats 400000 in
theorem spread_few (k n s c lx ly lt : Int) (len cap : Nat) (a : Option Addr) (w : World) (hl : len < 2) :
    Calls Try.prog 87 #[.agg #[.int .i64 k, .int .i64 n, .int .i64 s, .int .i64 c, .slice a len cap, .int .i64 lx, .int .i64 ly, .int .i64 lt]] w fun e w' =>
      e = .returned (.tuple #[.int .i64 1, .int .i64 1]) ∧ Ext w w' := by
  go_enter Try.func87, Try.ntmps87
  go_wp2
  go_ret2
  refine ⟨rfl, ?_⟩
  (repeat (first | exact Ext.refl _ | assumption | refine Ext.alloc ?_ _ | refine Ext.ext ?_ _ | refine Ext.drew ?_))
set_option maxHeartbeats 400000 in
theorem dist_s (s t : Smp) (hs : placed s = true) (ht : placed t = true) (w : World) :
    Calls Try.prog 83 #[.agg #[.int .i64 s.X, .int .i64 s.Y, .int .i64 s.T], .agg #[.int .i64 t.X, .int .i64 t.Y, .int .i64 t.T]] w fun e w' =>
      e = .returned (.int .i64 (dist s t)) ∧ Ext w w' := by
  have h1 := placed_bd hs
  have h2 := placed_bd ht
  exact distance_any _ _ _ _ _ _ _ (by omega) (by omega)
set_option maxHeartbeats 1000000 in
theorem spread_any (k n s c lx ly lt : Int) (b off cap : Nat) (t u : Tch) (sb so scap ub uo ucap : Nat) (w : World) (h : TOk t) (hu : TOk u) (hm : TchAt w b off t sb so scap) (hmu : TchAt w b (off + 5) u ub uo ucap) :
    Calls Try.prog 87 #[.agg #[.int .i64 k, .int .i64 n, .int .i64 s, .int .i64 c, .slice (some ⟨b, off, none⟩) 2 cap, .int .i64 lx, .int .i64 ly, .int .i64 lt]] w fun e w' =>
      e = .returned (.tuple #[.int .i64 (mx (dist t.F u.F) 1), .int .i64 (dist (latest t) (latest u))]) ∧ Ext w w' := by
  have hb := hm.lt
  have hlt := Lib.hid fun w' (he : Ext w w') => latest_t t sb so scap w' h (hm.ss.ext he)
  have hlu := Lib.hid fun w' (he : Ext w w') => latest_t u ub uo ucap w' hu (hmu.ss.ext he)
  have hd1 := Lib.hid fun w' => dist_s t.F u.F h.f hu.f w'
  have hd2 := Lib.hid fun w' => dist_s (latest t) (latest u) (latest_placed h) (latest_placed hu) w'
  obtain ⟨c0, c1, c2, c3, c4, _⟩ := hm
  obtain ⟨e0, e1, e2, e3, e4, _⟩ := hmu
  generalize latest t = z at *
  generalize latest u = y at *
  go_enter Try.func87, Try.ntmps87
  go_wp2
  go_region
  all_goals
    go_wp2
    (refine wp_region_ext (by kernel_rfl) (by kernel_rfl) ?_; (repeat (go_big_quiet_step ((first | (go_at_call_of 65 (t.ID); exact Calls.quiet_ext (hlt.out _ (by (repeat (first | exact Ext.refl _ | assumption | refine Ext.alloc ?_ _ | refine Ext.ext ?_ _ | refine Ext.drew ?_))))) | (go_at_call_of 65 (u.ID); exact Calls.quiet_ext (hlu.out _ (by (repeat (first | exact Ext.refl _ | assumption | refine Ext.alloc ?_ _ | refine Ext.ext ?_ _ | refine Ext.drew ?_))))) | (go_at_call_of 83 (t.F.X); exact Calls.quiet_ext (hd1.out _)) | (go_at_call_of 83 (z.X); exact Calls.quiet_ext (hd2.out _)))))); refine wpQuiet_nil ?_; intro _ hwq; obtain ⟨dq, hwq⟩ := hwq; subst hwq)
    go_wp2
    go_ret2
    refine ⟨rfl, ?_⟩
    (repeat (first | exact Ext.refl _ | assumption | refine Ext.alloc ?_ _ | refine Ext.ext ?_ _ | refine Ext.drew ?_))
end Go.Proofs.Ytendgmnbnnkpnaa.G
