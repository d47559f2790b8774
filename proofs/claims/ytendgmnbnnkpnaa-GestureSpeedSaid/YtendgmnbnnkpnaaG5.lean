/- once, pinch, moves, walked. -/
import Derived.Test.YtendgmnbnnkpnaaG4
import Derived.WalkKit
import Derived.WalkSpells
import Derived.WalkLawsBesides
import Derived.Deep.QuietTactic
import Derived.BigQuiet
import Derived.BigRegion
import Derived.Lib.Hide
import Derived.Deep.RegionWith
set_option linter.unusedSimpArgs false
set_option linter.unusedVariables false
namespace Go.Proofs.Ytendgmnbnnkpnaa.G
open Go.RowKit

def gesV (g : Ges) : Value := .agg #[.int .i64 g.Kind, .int .i64 g.Node, .int .i64 g.Phase, .int .i64 g.X, .int .i64 g.Y, .int .i64 g.DX, .int .i64 g.DY, .int .i64 g.Scale, .int .i64 g.VX, .int .i64 g.VY]

set_option maxHeartbeats 400000 in
theorem once_plain (k n s c lx ly lt : Int) (len cap : Nat) (a : Option Addr) (w : World) (hk : k ≠ 8) :
    Calls Try.prog 38 #[.agg #[.int .i64 k, .int .i64 n, .int .i64 s, .int .i64 c, .slice a len cap, .int .i64 lx, .int .i64 ly, .int .i64 lt]] w fun e w' =>
      e = .returned (.agg #[.int .i64 k, .int .i64 n, .int .i64 1, .int .i64 lx, .int .i64 ly, .int .i64 0, .int .i64 0, .int .i64 1000, .int .i64 0, .int .i64 0]) ∧ Ext w w' := by
  have hk' : (k == 8) = false := by simpa using hk
  clear hk
  go_enter Try.func38, Try.ntmps38
  go_wp2
  (refine bodyPost_ret (v := ?_) (by simp [results, Try.results38, go_sem]; rfl) rfl ?_)
  refine ⟨rfl, ?_⟩
  (repeat (first | exact Ext.refl _ | assumption | refine Ext.alloc ?_ _ | refine Ext.ext ?_ _ | refine Ext.drew ?_))
set_option maxHeartbeats 400000 in
theorem once_bare (k n s c lx ly lt : Int) (cap : Nat) (a : Option Addr) (w : World) :
    Calls Try.prog 38 #[.agg #[.int .i64 k, .int .i64 n, .int .i64 s, .int .i64 c, .slice a 0 cap, .int .i64 lx, .int .i64 ly, .int .i64 lt]] w fun e w' =>
      e = .returned (.agg #[.int .i64 k, .int .i64 n, .int .i64 1, .int .i64 lx, .int .i64 ly, .int .i64 0, .int .i64 0, .int .i64 1000, .int .i64 0, .int .i64 0]) ∧ Ext w w' := by
  by_cases hk : k = 8
  · subst hk
    go_enter Try.func38, Try.ntmps38
    go_wp2
    (refine bodyPost_ret (v := ?_) (by simp [results, Try.results38, go_sem]; rfl) rfl ?_)
    refine ⟨rfl, ?_⟩
    (repeat (first | exact Ext.refl _ | assumption | refine Ext.alloc ?_ _ | refine Ext.ext ?_ _ | refine Ext.drew ?_))
  · exact once_plain k n s c lx ly lt 0 cap a w hk
theorem vel_t (t : Tch) (sb so cap : Nat) (w : World) (h : TOk t) (hs : SsAt w sb so t.S) :
    Calls Try.prog 24 #[.slice (some ⟨sb, so, none⟩) t.S.length cap] w fun e w' =>
      e = .returned (.tuple #[.int .i64 (vel t.S).1, .int .i64 (vel t.S).2]) ∧ Ext w w' :=
  vel_any cap sb so t.S w (List.length_pos_iff.2 h.ne) (by have := h.len; omega) hs
set_option maxHeartbeats 400000 in
theorem once_fling (n s c lx ly lt : Int) (len b off cap : Nat) (t : Tch) (sb so scap : Nat) (w : World) (hl : 0 < len) (h : TOk t) (hm : TchAt w b off t sb so scap) :
    Calls Try.prog 38 #[.agg #[.int .i64 8, .int .i64 n, .int .i64 s, .int .i64 c, .slice (some ⟨b, off, none⟩) len cap, .int .i64 lx, .int .i64 ly, .int .i64 lt]] w fun e w' =>
      e = .returned (.agg #[.int .i64 8, .int .i64 n, .int .i64 1, .int .i64 lx, .int .i64 ly, .int .i64 0, .int .i64 0, .int .i64 1000, .int .i64 (vel t.S).1, .int .i64 (vel t.S).2]) ∧ Ext w w' := by
  have hb := hm.lt
  have hv := Lib.hid fun w' (he : Ext w w') => vel_t t sb so scap w' h (hm.ss.ext he)
  obtain ⟨c0, c1, c2, c3, c4, _⟩ := hm
  have hl2 : decide ((0 : Int) < (len : Int)) = true := by simp; omega
  have hl3 : decide (0 < len) = true := by simp; omega
  go_enter Try.func38, Try.ntmps38
  go_wp2_with (go_at_call 24; refine (hv.out _ (by (repeat (first | exact Ext.refl _ | assumption | refine Ext.alloc ?_ _ | refine Ext.ext ?_ _ | refine Ext.drew ?_)))).mono ?_; rintro e w' ⟨rfl, d, rfl⟩)
  (refine bodyPost_ret (v := ?_) (by simp [results, Try.results38, go_sem]; rfl) rfl ?_)
  refine ⟨rfl, ?_⟩
  (repeat (first | exact Ext.refl _ | assumption | refine Ext.alloc ?_ _ | refine Ext.ext ?_ _ | refine Ext.drew ?_))

end Go.Proofs.Ytendgmnbnnkpnaa.G
