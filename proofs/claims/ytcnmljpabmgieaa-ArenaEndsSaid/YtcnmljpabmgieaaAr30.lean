/- The reference's arena: decide, Equal and EqualVerdicts at equal values. -/
import Derived.Test.YtcnmljpabmgieaaAr29
import Derived.Test.YtcnmljpabmgieaaAr21
import Derived.WalkKit
import Derived.WalkSpells
import Derived.WalkLawsBesides
import Derived.Deep.QuietTactic
import Derived.BigQuiet
import Derived.BigRegion
import Derived.Lib.Hide
import Derived.Deep.RegionWith
set_option linter.unusedSimpArgs false
set_option linter.unusedVariables false
namespace Go.Proofs.Ytcnmljpabmgieaa.R
open Go.RowKit
set_option maxHeartbeats 2000000 in
theorem rEqV_ok (l : List Vd) (a b : Option Addr) (ca cb : Nat) (w : World) (hl : l.length ≤ 1000000) (h : OV w a ca l) (h2 : OV w b cb l) :
    Calls Try.prog 24 #[.slice a l.length ca, .slice b l.length cb] w fun e w' => e = .returned (.bool true) ∧ Ext w w' := by
  obtain ⟨n, hn⟩ : ∃ n, n = l.length := ⟨_, rfl⟩
  rw [← hn] at hl ⊢
  replace hn := Lib.hid hn
  replace h := Lib.hid h
  replace h2 := Lib.hid h2
  go_enter Try.func24, Try.ntmps24
  go_wp2
  go_loopg [5] n (fun g v5 wr => ∃ k : Nat, v5 = .int .i64 k ∧ k ≤ n ∧ g = n - k ∧ Hid (Ext w wr))
  case atStart => exact ⟨0, rfl, Nat.zero_le _, rfl, Lib.hid (Ext.refl _)⟩
  case round =>
    obtain ⟨k, rfl, hk, hg, he⟩ := hrel
    replace hg := Lib.hid hg
    by_cases hlt : k < n
    · obtain ⟨x, hx⟩ : ∃ x, l[k]? = some x := ⟨_, List.getElem?_eq_getElem (hn.out ▸ hlt)⟩
      obtain ⟨b1, rfl, hi1⟩ := (h.out.ext he.out).rep.resolve_left (by intro h; rw [h] at hx; cases hx)
      obtain ⟨b2, rfl, hi2⟩ := (h2.out.ext he.out).rep.resolve_left (by intro h; rw [h] at hx; cases hx)
      obtain ⟨c0, c1⟩ := hi1 k x hx
      obtain ⟨c2, c3⟩ := hi2 k x hx
      have hbl := World.block_lt_of_cell? wr _ c0
      have hbl2 := World.block_lt_of_cell? wr _ c2
      simp only at hbl hbl2
      clear hi1 hi2 hx
      go_wp2
      (refine wp_region_ext (by kernel_rfl) (by kernel_rfl) ?_; (repeat (go_big_quiet_step ((fail)))); refine wpQuiet_nil ?_; intro _ hwq; obtain ⟨dq, hwq⟩ := hwq; subst hwq)
      go_wp2
      go_roundg (n - (k + 1))
      case measure => have := hg.out; omega
      case rel => exact ⟨k + 1, by go_num, by omega, rfl, Lib.hid (he.out.ext _)⟩
    · obtain rfl : k = n := by omega
      go_wp2
      go_ret
      exact ⟨rfl, he.out⟩
set_option maxHeartbeats 2000000 in
theorem rEqual_ok (a : Arn) (la ha lb hb : Option Addr) (lc hc ld hd : Nat) (w : World) (hl : a.Left.length ≤ 1000000) (hl2 : a.Holds.length ≤ 1000000) (h1 : RepI w la a.Left) (h2 : RepI w ha a.Holds) (h3 : RepI w lb a.Left) (h4 : RepI w hb a.Holds) :
    Calls Try.prog 13 #[.agg #[.int .i64 (a).Members, .slice la (a).Left.length lc, .bool (a).Open, .int .i64 (a).Eager, .slice ha (a).Holds.length hc, .bool (a).Swept, .int .i64 (a).Winner, .bool (a).Done], .agg #[.int .i64 (a).Members, .slice lb (a).Left.length ld, .bool (a).Open, .int .i64 (a).Eager, .slice hb (a).Holds.length hd, .bool (a).Swept, .int .i64 (a).Winner, .bool (a).Done]] w fun e w' => e = .returned (.bool true) ∧ Ext w w' := by
  have e1 := Lib.hid fun w' (he : Ext w w') => (rEqInts_ok a.Left a.Left la lb lc ld w' hl hl (h1.ext he) (h3.ext he)).mono fun e w'' (h : _ ∧ _) => (⟨by simpa using h.1, h.2⟩ : e = .returned (.bool true) ∧ Ext w' w'')
  have e2 := Lib.hid fun w' (he : Ext w w') => (rEqInts_ok a.Holds a.Holds ha hb hc hd w' hl2 hl2 (h2.ext he) (h4.ext he)).mono fun e w'' (h : _ ∧ _) => (⟨by simpa using h.1, h.2⟩ : e = .returned (.bool true) ∧ Ext w' w'')
  obtain ⟨n, hn⟩ : ∃ n, n = a.Left.length := ⟨_, rfl⟩
  obtain ⟨nh, hnh⟩ : ∃ n, n = a.Holds.length := ⟨_, rfl⟩
  rw [← hn] at e1 ⊢
  rw [← hnh] at e2 ⊢
  clear h1 h2 h3 h4 hl hl2 hn hnh
  go_enter Try.func13, Try.ntmps13
  go_wp2_with fail
  refine Calls.mono (e1.out _ (by (repeat (first | exact Ext.refl _ | assumption | refine Ext.alloc ?_ _ | refine Ext.ext ?_ _ | refine Ext.drew ?_)))) ?_
  rintro _ _ ⟨rfl, d1, rfl⟩
  go_wp2_with fail
  refine Calls.mono (e2.out _ (by (repeat (first | exact Ext.refl _ | assumption | refine Ext.alloc ?_ _ | refine Ext.ext ?_ _ | refine Ext.drew ?_)))) ?_
  rintro _ _ ⟨rfl, d2, rfl⟩
  go_wp2
  go_ret
  refine ⟨rfl, ?_⟩
  (repeat (first | exact Ext.refl _ | assumption | refine Ext.alloc ?_ _ | refine Ext.ext ?_ _ | refine Ext.drew ?_))
end Go.Proofs.Ytcnmljpabmgieaa.R
