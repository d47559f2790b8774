/- GestureSpeed, walked. -/
import Derived.Test.YtendgmnbnnkpnaaS0
import Derived.Test.YtendgmnbnnkpnaaL1
import Derived.Test.YtendgmnbnnkpnaaR2
import Derived.WalkKit
import Derived.WalkSpells
import Derived.WalkLawsBesides
import Derived.Deep.QuietTactic
import Derived.BigQuiet
import Derived.BigRegion
import Derived.Lib.Hide
import Derived.Deep.RegionWith
set_option linter.unusedSimpArgs false
set_option linter.unusedVariables false
namespace Go.Proofs.Ytendgmnbnnkpnaa.G
open Go.RowKit
set_option maxRecDepth 100000 in
set_option maxHeartbeats 2000000 in
theorem speed_long (a : Option Addr) (cap : Nat) (L : Nat) (v n : Int) (h60 : 60 < L) (w : World) :
    Calls Try.prog 7 #[.slice a L cap, .int .i8 v, .int .u8 n] w fun e w' => e = .returned (.bool true) ∧ Ext w w' := by
  have b1 : decide (60 < (L : Int)) = true := by simp; omega
  go_enter Try.func7, Try.ntmps7
  go_wp2
  go_ret
  refine ⟨rfl, ?_⟩
  (repeat (first | exact Ext.refl _ | assumption | refine Ext.alloc ?_ _ | refine Ext.ext ?_ _ | refine Ext.drew ?_))
set_option maxRecDepth 100000 in
set_option maxHeartbeats 2000000 in
theorem speed_walk (x0 : Value) (L : Nat) (v n m A B : Int) (hx0 : Hid (∃ a cap, x0 = .slice a L cap)) (h60 : L ≤ 60) (hv1 : -128 ≤ v) (hv2 : v ≤ 127) (hn1 : 0 ≤ n) (hn2 : n ≤ 255) (hm : n % 7 = m) (hm1 : 0 ≤ m) (hm2 : m ≤ 6)
    (w : World) (f1 : Hid (∀ W, Ext w W → Calls Try.prog 24 #[x0] W fun e w' => e = .returned (.tuple #[.int .i64 A, .int .i64 B]) ∧ Ext W w')) (f2 : Hid (∀ W, Ext w W → Calls Try.prog 25 #[x0] W fun e w' => e = .returned (.tuple #[.int .i64 A, .int .i64 B]) ∧ Ext W w')) :
    Calls Try.prog 7 #[x0, .int .i8 v, .int .u8 n] w fun e w' => e = .returned (.bool true) ∧ Ext w w' := by
  obtain ⟨a, cap, rfl⟩ := hx0.out
  have b1 : decide (60 < (L : Int)) = false := by simp; omega
  go_enter Try.func7, Try.ntmps7
  go_wp2_with fail
  refine (f1.out _ (by (repeat (first | exact Ext.refl _ | assumption | refine Ext.alloc ?_ _ | refine Ext.ext ?_ _ | refine Ext.drew ?_)))).mono ?_
  rintro x w1 ⟨rfl, d1, rfl⟩
  go_wp2_with fail
  refine (f2.out _ (by (repeat (first | exact Ext.refl _ | assumption | refine Ext.alloc ?_ _ | refine Ext.ext ?_ _ | refine Ext.drew ?_)))).mono ?_
  rintro x w1 ⟨rfl, d2, rfl⟩
  go_wp2
  go_loopw [11, 12] (fun s i wr => ∃ k : Nat, k ≤ m + 2 ∧ i = .int .i64 k ∧ Ext w wr ∧ Hid (wr.ownsRow w.heap.size 24 3 s k (cellsS (std v k)))) (fun _ i _ => (m + 2).toNat - (intOf i).toNat)
  case atStart => exact ⟨0, by omega, rfl, by (repeat (first | exact Ext.refl _ | assumption | refine Ext.alloc ?_ _ | refine Ext.ext ?_ _ | refine Ext.drew ?_)), World.ownsRow_nil _ _ _ _⟩
  case round =>
    obtain ⟨k, hk, rfl, ⟨d3, rfl⟩, hs⟩ := hrel
    by_cases hlt : (k : Int) < m + 2
    · have b2 : decide ((k : Int) < 2 + m) = true := by simp; omega
      have p1 : v * (k : Int) ≤ 1000 := by
        rcases (show k = 0 ∨ k = 1 ∨ k = 2 ∨ k = 3 ∨ k = 4 ∨ k = 5 ∨ k = 6 ∨ k = 7 by omega) with rfl | rfl | rfl | rfl | rfl | rfl | rfl | rfl <;> simp <;> omega
      have p2 : -1024 ≤ v * (k : Int) := by
        rcases (show k = 0 ∨ k = 1 ∨ k = 2 ∨ k = 3 ∨ k = 4 ∨ k = 5 ∨ k = 6 ∨ k = 7 by omega) with rfl | rfl | rfl | rfl | rfl | rfl | rfl | rfl <;> simp <;> omega
      have hk8 : k ≤ 8 := by omega
      have hnew : cellsS (std v (k + 1)) = cellsS (std v k) ++ [.int .i64 (v * (k : Int)), .int .i64 (-(k : Int)), .int .i64 (10 * (k : Int))] := by
        rw [std_succ, cellsS_append]; rfl
      replace hnew := Lib.hid hnew
      have hat : Hid (∀ j u, [Value.int .i64 (v * (k : Int)), .int .i64 (-(k : Int)), .int .i64 (10 * (k : Int))][j]? = some u → ((w.ext d3).alloc (.cells #[.int .i64 (v * (k : Int)), .int .i64 (-(k : Int)), .int .i64 (10 * (k : Int))] 24)).cell? ((⟨w.heap.size + d3.size, 0, none⟩ : Addr).add j) = some u) := by
        have := cells_at0 (heap_alloc_new (w.ext d3) (.cells #[.int .i64 (v * (k : Int)), .int .i64 (-(k : Int)), .int .i64 (10 * (k : Int))] 24)) rfl
        rw [World.size_ext] at this
        exact this
      have hpre : Hid (Ext w ((w.ext d3).alloc (.cells #[.int .i64 (v * (k : Int)), .int .i64 (-(k : Int)), .int .i64 (10 * (k : Int))] 24))) := by
        show Ext _ _
        (repeat (first | exact Ext.refl _ | assumption | refine Ext.alloc ?_ _ | refine Ext.ext ?_ _ | refine Ext.drew ?_))
      go_wp2_with (at_builtin; refine wpList_append_row _ _ _ 57 24 _ 3 24 infoS Try.underlying57 rfl (by decide) w.heap.size _ k (cellsS (std v k)) (ownsRow_ext hs.out (by (repeat (first | exact Ext.refl _ | assumption | refine Ext.alloc ?_ _ | refine Ext.ext ?_ _ | refine Ext.drew ?_)))) ⟨w.heap.size + d3.size, 0, none⟩ 1 1 [.int .i64 (v * (k : Int)), .int .i64 (-(k : Int)), .int .i64 (10 * (k : Int))] (by decide) rfl hat.out (by simp [Value.oneCell']) (by unfold maxLen; omega) (by omega) (by simp <;> omega) rfl rfl rfl rfl ?_; intro g c' w' hown' hg'; rw [← hnew.out] at hown'; replace hown' := Lib.hid hown'; have hE' := Lib.hid (Ext.of_grown hpre.out hg' (fun k hk => (hs.out.lt k hk).1)); clear hg')
      go_roundw
      case rel => exact ⟨k + 1, by omega, by go_num, hE'.out, hown'⟩
      case measure => simp [intOf]; omega
    · obtain ⟨k', rfl⟩ : ∃ k', k = k' := ⟨_, rfl⟩
      have hkm : (k : Int) = m + 2 := by omega
      have b2 : decide ((k : Int) < 2 + m) = false := by simp; omega
      obtain ⟨g, c3, rfl⟩ := ownsRow_some hs.out (fun hv => by
        subst hv
        rcases hs.out.2 with ⟨_, h0⟩ | ⟨g, cap, cur, hv, _⟩
        · omega
        · cases hv)
      have hss : Hid (SsAt (w.ext d3) g 0 (std v k)) := ownS_at (by rw [std_len]; exact hs.out)
      have hv3 := Lib.hid fun (c : Nat) (W : World) (hs : SsAt W g 0 (std v k)) => vel_any c g 0 (std v k) W (by rw [std_len]; omega) (by rw [std_len]; omega) hs
      rw [vel_std v ⟨hv1, hv2⟩ k (by omega) (by omega), std_len] at hv3
      go_wp2_with fail
      refine (hv3.out _ _ (hss.out.ext (by (repeat (first | exact Ext.refl _ | assumption | refine Ext.alloc ?_ _ | refine Ext.ext ?_ _ | refine Ext.drew ?_))))).mono ?_
      rintro x w1 ⟨rfl, d4, rfl⟩
      go_wp2_with fail
      refine (awake_any _).mono ?_
      rintro x w1 ⟨rfl, d5, rfl⟩
      go_wp2
      go_ret
      refine ⟨rfl, ?_⟩
      (repeat (first | exact Ext.refl _ | assumption | refine Ext.alloc ?_ _ | refine Ext.ext ?_ _ | refine Ext.drew ?_))
end Go.Proofs.Ytendgmnbnnkpnaa.G
