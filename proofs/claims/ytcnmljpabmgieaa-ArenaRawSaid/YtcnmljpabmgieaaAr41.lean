/- ArenaRaw: the walk. -/
import Derived.Test.YtcnmljpabmgieaaAr37
import Derived.WalkKit
import Derived.WalkSpells
import Derived.WalkLawsBesides
import Derived.Deep.QuietTactic
import Derived.BigQuiet
import Derived.BigRegion
import Derived.Lib.Hide
import Derived.Deep.RegionWith
set_option linter.unusedSimpArgs false
set_option linter.unusedVariables false
namespace Go.Proofs.Ytcnmljpabmgieaa.R
open Go.RowKit
theorem newA_bad (n : Int) (h : n < 0 ∨ 24 < n) : newA n = (.zero, 1) := by
  unfold newA
  rw [if_pos h]
theorem newA_nat (n : Int) (h : ¬ (n < 0 ∨ 24 < n)) : ∃ k : Nat, n = k ∧ k ≤ 24 ∧ (newA n).2 = 0 ∧ (newA n).1.Holds = [] ∧ (newA n).1.Left.length ≤ 24 := by
  refine ⟨n.toNat, by omega, by omega, ?_⟩
  unfold newA
  rw [if_neg h]
  refine ⟨rfl, rfl, ?_⟩
  simp
  omega
theorem New_any (n : Int) (w : World) : Calls Try.prog 10 #[.int .i64 n] w fun x w' => ∃ la lc, x = .returned (.tuple #[.agg #[.int .i64 ((newA n).1).Members, .slice la ((newA n).1).Left.length lc, .bool ((newA n).1).Open, .int .i64 ((newA n).1).Eager, .slice none ((newA n).1).Holds.length 0, .bool ((newA n).1).Swept, .int .i64 ((newA n).1).Winner, .bool ((newA n).1).Done], .int .i64 (newA n).2]) ∧ Ext w w' ∧ OI 0 w' la lc (newA n).1.Left := by
  by_cases h : n < 0 ∨ 24 < n
  · rw [newA_bad n h]
    refine (new_bad n w h).mono ?_
    rintro _ _ ⟨rfl, he⟩
    exact ⟨none, 0, rfl, he, OI.nil _ _⟩
  · obtain ⟨k, rfl, hk, h2, _⟩ := newA_nat n h
    rw [h2]
    exact New_ok k w hk
theorem rNew_any (n : Int) (w : World) : Calls Try.prog 11 #[.int .i64 n] w fun x w' => ∃ la lc, x = .returned (.tuple #[.agg #[.int .i64 ((newA n).1).Members, .slice la ((newA n).1).Left.length lc, .bool ((newA n).1).Open, .int .i64 ((newA n).1).Eager, .slice none ((newA n).1).Holds.length 0, .bool ((newA n).1).Swept, .int .i64 ((newA n).1).Winner, .bool ((newA n).1).Done], .int .i64 (newA n).2]) ∧ Ext w w' ∧ OI 0 w' la lc (newA n).1.Left := by
  by_cases h : n < 0 ∨ 24 < n
  · rw [newA_bad n h]
    refine (rnew_bad n w h).mono ?_
    rintro _ _ ⟨rfl, he⟩
    exact ⟨none, 0, rfl, he, OI.nil _ _⟩
  · obtain ⟨k, rfl, hk, h2, _⟩ := newA_nat n h
    rw [h2]
    exact rNew_ok k w hk
theorem newA_small (n : Int) : (newA n).1.Holds = [] ∧ (newA n).1.Left.length ≤ 24 := by
  by_cases h : n < 0 ∨ 24 < n
  · rw [newA_bad n h]
    exact ⟨rfl, by simp [Arn.zero]⟩
  · obtain ⟨_, _, _, _, h1, h2⟩ := newA_nat n h
    exact ⟨h1, h2⟩
set_option maxRecDepth 100000 in
set_option maxHeartbeats 4000000 in
theorem raw_law (mem : Int) (a : Arn) (K M : Int) (la ha : Option Addr) (lc hc : Nat) (w : World) (hl : a.Left.length ≤ 9223372036854775807) (hl2 : a.Holds.length ≤ 9223372036854775807) (h1 : RepI w la a.Left) (h2 : RepI w ha a.Holds) :
    Calls Try.prog 3 #[.int .i64 mem, .agg #[.int .i64 (a).Members, .slice la (a).Left.length lc, .bool (a).Open, .int .i64 (a).Eager, .slice ha (a).Holds.length hc, .bool (a).Swept, .int .i64 (a).Winner, .bool (a).Done], .agg #[.int .i64 K, .int .i64 M]] w fun e w' => e = .returned (.bool true) ∧ Ext w w' := by
  by_cases g1 : 40 < a.Left.length
  focus
    have d1 : decide (40 < (a.Left.length : Int)) = true := decide_eq_true (by omega)
    have d2 : decide (40 < a.Left.length) = true := decide_eq_true g1
    obtain ⟨n, hn⟩ : ∃ n, n = a.Left.length := ⟨_, rfl⟩
    obtain ⟨nh, hnh⟩ : ∃ n, n = a.Holds.length := ⟨_, rfl⟩
    rw [← hn] at d1 d2 hl ⊢
    rw [← hnh] at hl2 ⊢
    clear hn hnh g1 h1 h2
    go_enter Try.func3, Try.ntmps3
    go_wp2
    go_ret
    exact ⟨rfl, by (repeat (first | exact Ext.refl _ | assumption | refine Ext.alloc ?_ _ | refine Ext.ext ?_ _ | refine Ext.drew ?_))⟩
  by_cases g2 : 40 < a.Holds.length
  focus
    have d1 : decide (40 < (a.Left.length : Int)) = false := decide_eq_false (by omega)
    have d2 : decide (40 < a.Left.length) = false := decide_eq_false g1
    have d3 : decide (40 < (a.Holds.length : Int)) = true := decide_eq_true (by omega)
    have d4 : decide (40 < a.Holds.length) = true := decide_eq_true g2
    obtain ⟨n, hn⟩ : ∃ n, n = a.Left.length := ⟨_, rfl⟩
    obtain ⟨nh, hnh⟩ : ∃ n, n = a.Holds.length := ⟨_, rfl⟩
    rw [← hn] at d1 d2 hl ⊢
    rw [← hnh] at d3 d4 hl2 ⊢
    clear hn hnh g1 g2 h1 h2
    go_enter Try.func3, Try.ntmps3
    go_wp2
    go_ret
    exact ⟨rfl, by (repeat (first | exact Ext.refl _ | assumption | refine Ext.alloc ?_ _ | refine Ext.ext ?_ _ | refine Ext.drew ?_))⟩
  have hN := Lib.hid (New_any mem)
  have hR := Lib.hid (rNew_any mem)
  obtain ⟨q, hq⟩ : ∃ q, q = newA mem := ⟨_, rfl⟩
  have hqs := newA_small mem
  rw [← hq] at hN hR hqs
  obtain ⟨q1, q2⟩ := hqs
  replace q1 := Lib.hid q1
  replace q2 := Lib.hid q2
  have hst := fun w' (he : Ext w w') => lawStep_ok w.heap.size a K M la ha lc hc w' (by omega) (by omega) (.inl ⟨w, Nat.le_refl _, he, h1⟩) (.inl ⟨w, Nat.le_refl _, he, h2⟩) he.size
  have hC1 := fun w' (he : Ext w w') => Check_ok a la ha lc hc w' (by omega) (by omega) (h1.ext he) (h2.ext he)
  have hC2 := fun w' (he : Ext w w') => rCheck_ok a la ha lc hc w' (by omega) (by omega) (h1.ext he) (h2.ext he)
  obtain ⟨ck, hck⟩ : ∃ c, c = check a := ⟨_, rfl⟩
  rw [← hck] at hC1 hC2
  obtain ⟨z, hz⟩ : ∃ z, z = step a ⟨K, M⟩ := ⟨_, rfl⟩
  rw [← hz] at hst
  obtain ⟨n, hn⟩ : ∃ n, n = a.Left.length := ⟨_, rfl⟩
  obtain ⟨nh, hnh⟩ : ∃ n, n = a.Holds.length := ⟨_, rfl⟩
  rw [← hn] at hst hC1 hC2 g1 hl ⊢
  rw [← hnh] at hst hC1 hC2 g2 hl2 ⊢
  replace hst := Lib.hid hst
  replace hC1 := Lib.hid hC1
  replace hC2 := Lib.hid hC2
  have d1 : decide (40 < (n : Int)) = false := decide_eq_false (by omega)
  have d2 : decide (40 < n) = false := decide_eq_false g1
  have d3 : decide (40 < (nh : Int)) = false := decide_eq_false (by omega)
  have d4 : decide (40 < nh) = false := decide_eq_false g2
  clear hn hnh g1 g2 h1 h2 hz hck hq
  go_enter Try.func3, Try.ntmps3
  go_wp2_with fail
  refine Calls.mono (hN.out _) ?_
  rintro _ _ ⟨lx, cx, rfl, ⟨D1, rfl⟩, ox⟩
  replace ox := Lib.hid ox
  go_wp2_with fail
  refine Calls.mono (hR.out _) ?_
  rintro _ _ ⟨ly, cy, rfl, ⟨D2, rfl⟩, oy⟩
  replace oy := Lib.hid oy
  go_wp2_with fail
  refine Calls.mono (hst.out _ (by (repeat (first | exact Ext.refl _ | assumption | refine Ext.alloc ?_ _ | refine Ext.ext ?_ _ | refine Ext.drew ?_)))) ?_
  rintro _ _ ⟨lz, cz, hz1, hz2, vz, wz, rfl, ⟨D3, rfl⟩, -, -⟩
  have hEq := Lib.hid fun w' (he : Ext _ w') => rEqual_ok q.1 lx none ly none cx 0 cy 0 w' (by have := q2.out; omega) (by rw [q1.out]; simp) (ox.out.ext (Ext.trans (by (repeat (first | exact Ext.refl _ | assumption | refine Ext.alloc ?_ _ | refine Ext.ext ?_ _ | refine Ext.drew ?_))) he)).rep (by rw [q1.out]; exact .inl rfl) (oy.out.ext he).rep (by rw [q1.out]; exact .inl rfl)
  clear ox oy hN hR hst q1 q2
  go_wp2
  (refine wp_region_ext (by kernel_rfl) (by kernel_rfl) ?_; (repeat (go_big_quiet_step ((first | (go_at_call 13; exact Calls.quiet_ext (hEq.out _ (by (repeat (first | exact Ext.refl _ | assumption | refine Ext.alloc ?_ _ | refine Ext.ext ?_ _ | refine Ext.drew ?_))))) | (go_at_call 14; exact Calls.quiet_ext (hC1.out _ (by (repeat (first | exact Ext.refl _ | assumption | refine Ext.alloc ?_ _ | refine Ext.ext ?_ _ | refine Ext.drew ?_))))) | (go_at_call 15; exact Calls.quiet_ext (hC2.out _ (by (repeat (first | exact Ext.refl _ | assumption | refine Ext.alloc ?_ _ | refine Ext.ext ?_ _ | refine Ext.drew ?_))))) | (go_at_call 16; exact Calls.quiet_ext (awake_ok _)))))); refine wpQuiet_nil ?_; intro _ hwq; obtain ⟨dq, hwq⟩ := hwq; subst hwq)
  go_wp2
  go_ret
  exact ⟨rfl, by (repeat (first | exact Ext.refl _ | assumption | refine Ext.alloc ?_ _ | refine Ext.ext ?_ _ | refine Ext.drew ?_))⟩
end Go.Proofs.Ytcnmljpabmgieaa.R
