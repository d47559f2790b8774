/- judge, walked. once, pinch, moves, walked. -/
import Derived.Test.YtendgmnbnnkpnaaUB
import Derived.WalkKit
import Derived.WalkSpells
import Derived.WalkLawsBesides
import Derived.Deep.QuietTactic
import Derived.BigQuiet
import Derived.BigRegion
import Derived.Lib.Hide
import Derived.Deep.RegionWith
set_option linter.unusedSimpArgs false
set_option linter.unusedVariables false
namespace Go.Proofs.Ytendgmnbnnkpnaa.G
open Go.RowKit

/-- a recogniser as a value; its touches lie where 'a' says -/
def recV (r : Rec) (a : Option Addr) (cap : Nat) : Value :=
  .agg #[.int .i64 r.Kind, .int .i64 r.Node, .int .i64 r.State, .int .i64 r.Count, .slice a r.Ts.length cap, .int .i64 r.L.X, .int .i64 r.L.Y, .int .i64 r.L.T]
/-- touches lie in a row -/
def TsAt (w : World) (b off : Nat) (ts : List Tch) : Prop := ∀ i t, ts[i]? = some t → ∃ sb so sc, TchAt w b (off + i * 5) t sb so sc
def RepT (w : World) (a : Option Addr) (ts : List Tch) : Prop := ts = [] ∨ ∃ b off, a = some ⟨b, off, none⟩ ∧ TsAt w b off ts
theorem TsAt.ext {w w' : World} {b off : Nat} {ts : List Tch} (h : TsAt w b off ts) (he : Ext w w') : TsAt w' b off ts :=
  fun i t hi => let ⟨sb, so, sc, h1⟩ := h i t hi; ⟨sb, so, sc, h1.ext he⟩
theorem RepT.ext {w w' : World} {a : Option Addr} {ts : List Tch} (h : RepT w a ts) (he : Ext w w') : RepT w' a ts := by
  rcases h with h | ⟨b, off, h1, h2⟩
  · exact .inl h
  · exact .inr ⟨b, off, h1, h2.ext he⟩

theorem judge_nil (k n s c lx ly lt : Int) (a : Option Addr) (cap : Nat) (w : World) (hk : 4 ≤ k ∧ k ≤ 7) :
    Calls Try.prog 86 #[.agg #[.int .i64 k, .int .i64 n, .int .i64 s, .int .i64 c, .slice a 0 cap, .int .i64 lx, .int .i64 ly, .int .i64 lt]] w fun e w' =>
      e = .returned (.tuple #[.bool false, .bool false]) ∧ Ext w w' := by
  have hk' : k = 4 ∨ k = 5 ∨ k = 6 ∨ k = 7 := by omega
  have hz : size 0 = 0 := rfl
  rcases hk' with rfl | rfl | rfl | rfl
  all_goals
    go_enter Try.func86, Try.ntmps86
    go_wp2_with (first | (go_at_call 66; refine (movement_nil _ _ _ _ _ _ _ _ _ _).mono ?_; rintro e w' ⟨rfl, d, rfl⟩) | (go_at_call 93; refine (size_any _ _ (by omega) (by omega)).mono ?_; rintro e w' ⟨rfl, rfl⟩) | (go_at_call 87; refine (spread_few _ _ _ _ _ _ _ _ _ _ _ (by omega)).mono ?_; rintro e w' ⟨rfl, d, rfl⟩))
    all_goals go_ret2
    all_goals (refine ⟨rfl, ?_⟩; (repeat (first | exact Ext.refl _ | assumption | refine Ext.alloc ?_ _ | refine Ext.ext ?_ _ | refine Ext.drew ?_)))

set_option maxHeartbeats 1000000 in
theorem judge_one (k n s c lx ly lt : Int) (b off cap : Nat) (t : Tch) (sb so scap : Nat) (w : World) (hk : 4 ≤ k ∧ k ≤ 7) (h : TOk t) (hm : TchAt w b off t sb so scap) :
    Calls Try.prog 86 #[.agg #[.int .i64 k, .int .i64 n, .int .i64 s, .int .i64 c, .slice (some ⟨b, off, none⟩) 1 cap, .int .i64 lx, .int .i64 ly, .int .i64 lt]] w fun e w' =>
      e = .returned (.tuple #[.bool (certain ⟨k, n, s, c, [t], ⟨lx, ly, lt⟩⟩).1, .bool (certain ⟨k, n, s, c, [t], ⟨lx, ly, lt⟩⟩).2]) ∧ Ext w w' := by
  have hk' : k = 4 ∨ k = 5 ∨ k = 6 ∨ k = 7 := by omega
  have b1 := placed_bd h.f
  have b2 := placed_bd (latest_placed h)
  have hmv := Lib.hid fun k n s c lx ly lt w' (he : Ext w w') => movement_any k n s c lx ly lt 1 b off cap t sb so scap w' (by omega) (by omega) h (hm.ext he)
  obtain ⟨ce, hc⟩ : ∃ ce, certain ⟨k, n, s, c, [t], ⟨lx, ly, lt⟩⟩ = ce := ⟨_, rfl⟩
  rw [hc]
  simp only [certain] at hc
  generalize latest t = z at *
  clear hm
  have s1 : 0 ≤ size (z.X - t.F.X) := by unfold size; have := @lt_mx (z.X - t.F.X) (-(z.X - t.F.X)) (-1); omega
  have s2 : 0 ≤ size (z.Y - t.F.Y) := by unfold size; have := @lt_mx (z.Y - t.F.Y) (-(z.Y - t.F.Y)) (-1); omega
  rcases hk' with rfl | rfl | rfl | rfl
  all_goals
    replace hc := Lib.hid hc
    go_enter Try.func86, Try.ntmps86
    go_wp2_with (first | (go_at_call 66; refine (hmv.out _ _ _ _ _ _ _ _ (by (repeat (first | exact Ext.refl _ | assumption | refine Ext.alloc ?_ _ | refine Ext.ext ?_ _ | refine Ext.drew ?_)))).mono ?_; rintro e w' ⟨rfl, d, rfl⟩) | (go_at_call 93; refine (size_any _ _ (by omega) (by omega)).mono ?_; rintro e w' ⟨rfl, rfl⟩) | (go_at_call 87; refine (spread_few _ _ _ _ _ _ _ _ _ _ _ (by omega)).mono ?_; rintro e w' ⟨rfl, d, rfl⟩))
    all_goals go_ret2
    all_goals refine ⟨?_, ?_⟩
    all_goals first | ((repeat (first | exact Ext.refl _ | assumption | refine Ext.alloc ?_ _ | refine Ext.ext ?_ _ | refine Ext.drew ?_)); done) | (rw [← hc.out]; (simp; try (first | omega | (refine ⟨?_, ?_⟩ <;> first | omega | (rw [Bool.eq_iff_iff]; simp; omega)) | (rw [Bool.eq_iff_iff]; simp; omega))))

set_option maxHeartbeats 1000000 in
theorem judge_two (n s c lx ly lt : Int) (b off cap : Nat) (t u : Tch) (sb so scap ub uo ucap : Nat) (w : World) (h : TOk t) (hu : TOk u) (hm : TchAt w b off t sb so scap) (hmu : TchAt w b (off + 5) u ub uo ucap) :
    Calls Try.prog 86 #[.agg #[.int .i64 7, .int .i64 n, .int .i64 s, .int .i64 c, .slice (some ⟨b, off, none⟩) 2 cap, .int .i64 lx, .int .i64 ly, .int .i64 lt]] w fun e w' =>
      e = .returned (.tuple #[.bool (certain ⟨7, n, s, c, [t, u], ⟨lx, ly, lt⟩⟩).1, .bool (certain ⟨7, n, s, c, [t, u], ⟨lx, ly, lt⟩⟩).2]) ∧ Ext w w' := by
  have b1 := placed_bd h.f
  have b2 := placed_bd (latest_placed h)
  have d1 := dist_bd (latest_placed h) (latest_placed hu)
  have d2 := dist_bd h.f hu.f
  have hmv := Lib.hid fun k n s c lx ly lt w' (he : Ext w w') => movement_any k n s c lx ly lt 2 b off cap t sb so scap w' (by omega) (by omega) h (hm.ext he)
  have hsp := Lib.hid fun k n s c lx ly lt w' (he : Ext w w') => spread_any k n s c lx ly lt b off cap t u sb so scap ub uo ucap w' h hu (hm.ext he) (hmu.ext he)
  obtain ⟨ce, hc⟩ : ∃ ce, certain ⟨7, n, s, c, [t, u], ⟨lx, ly, lt⟩⟩ = ce := ⟨_, rfl⟩
  rw [hc]
  simp only [certain] at hc
  generalize dist (latest t) (latest u) = dd at *
  generalize dist t.F u.F = dF at *
  have hdf : 0 ≤ mx dF 1 ∧ mx dF 1 ≤ 2097152 := by unfold mx; split <;> omega
  generalize mx dF 1 = dm at *
  generalize latest t = z at *
  clear hm hmu
  replace hc := Lib.hid hc
  go_enter Try.func86, Try.ntmps86
  go_wp2_with (first | (go_at_call 66; refine (hmv.out _ _ _ _ _ _ _ _ (by (repeat (first | exact Ext.refl _ | assumption | refine Ext.alloc ?_ _ | refine Ext.ext ?_ _ | refine Ext.drew ?_)))).mono ?_; rintro e w' ⟨rfl, d, rfl⟩) | (go_at_call 93; refine (size_any _ _ (by omega) (by omega)).mono ?_; rintro e w' ⟨rfl, rfl⟩) | (go_at_call 87; refine (hsp.out _ _ _ _ _ _ _ _ (by (repeat (first | exact Ext.refl _ | assumption | refine Ext.alloc ?_ _ | refine Ext.ext ?_ _ | refine Ext.drew ?_)))).mono ?_; rintro e w' ⟨rfl, d, rfl⟩))
  all_goals go_ret2
  all_goals refine ⟨?_, ?_⟩
  all_goals first | ((repeat (first | exact Ext.refl _ | assumption | refine Ext.alloc ?_ _ | refine Ext.ext ?_ _ | refine Ext.drew ?_)); done) | (rw [← hc.out]; (simp; try (first | omega | (refine ⟨?_, ?_⟩ <;> first | omega | (rw [Bool.eq_iff_iff]; simp; omega)) | (rw [Bool.eq_iff_iff]; simp; omega))))
end Go.Proofs.Ytendgmnbnnkpnaa.G
namespace Go.Proofs.Ytendgmnbnnkpnaa.G
open Go.RowKit

def gesV (g : Ges) : Value := .agg #[.int .i64 g.Kind, .int .i64 g.Node, .int .i64 g.Phase, .int .i64 g.X, .int .i64 g.Y, .int .i64 g.DX, .int .i64 g.DY, .int .i64 g.Scale, .int .i64 g.VX, .int .i64 g.VY]

set_option maxHeartbeats 400000 in
theorem once_plain (k n s c lx ly lt : Int) (len cap : Nat) (a : Option Addr) (w : World) (hk : k ≠ 8) :
    Calls Try.prog 38 #[.agg #[.int .i64 k, .int .i64 n, .int .i64 s, .int .i64 c, .slice a len cap, .int .i64 lx, .int .i64 ly, .int .i64 lt]] w fun e w' =>
      e = .returned (.agg #[.int .i64 k, .int .i64 n, .int .i64 1, .int .i64 lx, .int .i64 ly, .int .i64 0, .int .i64 0, .int .i64 1000, .int .i64 0, .int .i64 0]) ∧ Ext w w' := by
  have hk' : (k == 8) = false := by simpa using hk
  clear hk
  go_enter Try.func38, Try.ntmps38
  go_wp2
  (refine bodyPost_ret (v := ?_) (by simp [results, Try.results38, go_sem]; rfl) rfl ?_)
  refine ⟨rfl, ?_⟩
  (repeat (first | exact Ext.refl _ | assumption | refine Ext.alloc ?_ _ | refine Ext.ext ?_ _ | refine Ext.drew ?_))
set_option maxHeartbeats 400000 in
theorem once_bare (k n s c lx ly lt : Int) (cap : Nat) (a : Option Addr) (w : World) :
    Calls Try.prog 38 #[.agg #[.int .i64 k, .int .i64 n, .int .i64 s, .int .i64 c, .slice a 0 cap, .int .i64 lx, .int .i64 ly, .int .i64 lt]] w fun e w' =>
      e = .returned (.agg #[.int .i64 k, .int .i64 n, .int .i64 1, .int .i64 lx, .int .i64 ly, .int .i64 0, .int .i64 0, .int .i64 1000, .int .i64 0, .int .i64 0]) ∧ Ext w w' := by
  by_cases hk : k = 8
  · subst hk
    go_enter Try.func38, Try.ntmps38
    go_wp2
    (refine bodyPost_ret (v := ?_) (by simp [results, Try.results38, go_sem]; rfl) rfl ?_)
    refine ⟨rfl, ?_⟩
    (repeat (first | exact Ext.refl _ | assumption | refine Ext.alloc ?_ _ | refine Ext.ext ?_ _ | refine Ext.drew ?_))
  · exact once_plain k n s c lx ly lt 0 cap a w hk
theorem vel_t (t : Tch) (sb so cap : Nat) (w : World) (h : TOk t) (hs : SsAt w sb so t.S) :
    Calls Try.prog 24 #[.slice (some ⟨sb, so, none⟩) t.S.length cap] w fun e w' =>
      e = .returned (.tuple #[.int .i64 (vel t.S).1, .int .i64 (vel t.S).2]) ∧ Ext w w' :=
  vel_any cap sb so t.S w (List.length_pos_iff.2 h.ne) (by have := h.len; omega) hs
set_option maxHeartbeats 400000 in
theorem once_fling (n s c lx ly lt : Int) (len b off cap : Nat) (t : Tch) (sb so scap : Nat) (w : World) (hl : 0 < len) (h : TOk t) (hm : TchAt w b off t sb so scap) :
    Calls Try.prog 38 #[.agg #[.int .i64 8, .int .i64 n, .int .i64 s, .int .i64 c, .slice (some ⟨b, off, none⟩) len cap, .int .i64 lx, .int .i64 ly, .int .i64 lt]] w fun e w' =>
      e = .returned (.agg #[.int .i64 8, .int .i64 n, .int .i64 1, .int .i64 lx, .int .i64 ly, .int .i64 0, .int .i64 0, .int .i64 1000, .int .i64 (vel t.S).1, .int .i64 (vel t.S).2]) ∧ Ext w w' := by
  have hb := hm.lt
  have hv := Lib.hid fun w' (he : Ext w w') => vel_t t sb so scap w' h (hm.ss.ext he)
  obtain ⟨c0, c1, c2, c3, c4, _⟩ := hm
  have hl2 : decide ((0 : Int) < (len : Int)) = true := by simp; omega
  have hl3 : decide (0 < len) = true := by simp; omega
  go_enter Try.func38, Try.ntmps38
  go_wp2_with (go_at_call 24; refine (hv.out _ (by (repeat (first | exact Ext.refl _ | assumption | refine Ext.alloc ?_ _ | refine Ext.ext ?_ _ | refine Ext.drew ?_)))).mono ?_; rintro e w' ⟨rfl, d, rfl⟩)
  (refine bodyPost_ret (v := ?_) (by simp [results, Try.results38, go_sem]; rfl) rfl ?_)
  refine ⟨rfl, ?_⟩
  (repeat (first | exact Ext.refl _ | assumption | refine Ext.alloc ?_ _ | refine Ext.ext ?_ _ | refine Ext.drew ?_))

end Go.Proofs.Ytendgmnbnnkpnaa.G
