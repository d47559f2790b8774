/- GestureSamples, walked. -/
import Derived.Test.YtendgmnbnnkpnaaL1
import Derived.Test.YtendgmnbnnkpnaaP2
import Derived.WalkKit
import Derived.WalkSpells
import Derived.WalkLawsBesides
import Derived.Deep.QuietTactic
import Derived.BigQuiet
import Derived.BigRegion
import Derived.Lib.Hide
import Derived.Deep.RegionWith
set_option linter.unusedSimpArgs false
set_option linter.unusedVariables false
namespace Go.Proofs.Ytendgmnbnnkpnaa.G
open Go.RowKit
theorem smpl_eq (k : Nat) : smpl k = ⟨(k : Int) % 8, 0, 10 * (k : Int)⟩ := by
  unfold smpl; rw [Int.tmod_eq_emod_of_nonneg (by omega)]
theorem panR_sound (i : Nat) (hi : i ≤ 30) : Sound (panR i) := by
  induction i with
  | zero => exact (newR_sound (k := 6) (n := 1) rfl rfl).feed ⟨1, 1, 0, 0, 0, 0⟩
  | succ i ih =>
    have := (ih (by omega)).feed ⟨2, 1, (smpl (i + 1)).X, 0, (smpl (i + 1)).T, 0⟩
    rw [pan_step i (by omega)] at this
    exact this
set_option maxRecDepth 100000 in
set_option maxHeartbeats 2000000 in
theorem samples_law (n : Int) (hn : 0 ≤ n ∧ n ≤ 255) (w : World) : Calls Try.prog 10 #[.int .u8 n] w fun e w' => e = .returned (.bool true) ∧ Ext w w' := by
  obtain ⟨m, hm, hm2⟩ : ∃ m : Nat, n % 24 = m ∧ m < 24 := ⟨(n % 24).toNat, by omega, by omega⟩
  have f1 := Lib.hid fun w a c h => feed_mk (newR 6 1) ⟨1, 1, 0, 0, 0, 0⟩ (newR_sound rfl rfl).ok a c w h
  have q1 : feed (newR 6 1) ⟨1, 1, 0, 0, 0, 0⟩ = (panR 0, 0, []) := rfl
  rw [q1] at f1
  obtain ⟨hn1, hn2⟩ := hn
  go_enter Try.func10, Try.ntmps10
  go_wp2_with fail
  refine (New_ok 6 1 _ rfl rfl).mono ?_
  rintro x w1 ⟨rfl, d1, rfl⟩
  go_wp2_with fail
  (refine wp_region_segs (fun i => if i = 2 then some (FeedF (panR 0, 0, []), FeedS (panR 0, 0, [])) else none) [([0, 1], .m, 2)] [3, 4] [5, 6] [7] (by kernel_rfl) (by kernel_rfl) (by simp only [List.map_cons, List.map_nil, List.filterMap_cons, List.filterMap_nil, List.getElem?_toArray, List.getElem?_cons_succ, List.getElem?_cons_zero]; try exact rfl) (by simp only [List.filterMap_cons, List.filterMap_nil, List.getElem?_toArray, List.getElem?_cons_succ, List.getElem?_cons_zero]; try exact rfl) (by simp only [List.filterMap_cons, List.filterMap_nil, List.getElem?_toArray, List.getElem?_cons_succ, List.getElem?_cons_zero]; try exact rfl) (by simp only [List.filterMap_cons, List.filterMap_nil, List.getElem?_toArray, List.getElem?_cons_succ, List.getElem?_cons_zero]; try exact rfl) (by decide) ?_)
  (refine sg_m ?_; (repeat (first | (refine ql_plain rfl rfl ?_; intro K hK; go_big_quiet_op; go_big_quiet_on) | (refine ql_nilCheck rfl rfl rfl ?_; intro K hK; simp only [Act.put, List.setIfInBounds_toArray, List.set_cons_succ, List.set_cons_zero]; go_big_quiet_on) | (refine ql_call (fun _ => event_any _ _ _ _ _) rfl rfl Try.func23 rfl (by kernel_rfl) rfl ?_; intro K hK; simp only [Act.put, List.setIfInBounds_toArray, List.set_cons_succ, List.set_cons_zero]; go_big_quiet_on) | (refine ql_skip rfl ?_; intro K hK; simp only [Act.put, List.setIfInBounds_toArray, List.set_cons_succ, List.set_cons_zero]; go_big_quiet_on))); refine ql_nil ?_)
  (refine sg_call (f := 20) (FeedF (panR 0, 0, [])) (FeedS (panR 0, 0, [])) rfl (FeedF.shp _) (FeedF.stable _) (fun d => f1.out _ _ _ (newR_rep _ _ _ _)) (by simp only [List.getElem?_toArray, List.getElem?_cons_succ, List.getElem?_cons_zero]; try exact rfl) rfl rfl Try.func20 rfl (by kernel_rfl) rfl ?_; intro u hu hS K hK; obtain ⟨a1, c1, va1, vn1, vc1, rfl⟩ := hS; simp only [Act.put, List.setIfInBounds_toArray, List.set_cons_succ, List.set_cons_zero]; refine hK _ ?_; clear hK K)
  (refine sg_last ?_; (repeat (first | (refine ql_plain rfl rfl ?_; intro K hK; go_big_quiet_op; go_big_quiet_on) | (refine ql_nilCheck rfl rfl rfl ?_; intro K hK; simp only [Act.put, List.setIfInBounds_toArray, List.set_cons_succ, List.set_cons_zero]; go_big_quiet_on) | fail | (refine ql_skip rfl ?_; intro K hK; simp only [Act.put, List.setIfInBounds_toArray, List.set_cons_succ, List.set_cons_zero]; go_big_quiet_on))); refine ql_nil ?_; (repeat (first | (refine pl_plain rfl rfl ?_; intro K hK; go_big_quiet_op; go_big_quiet_on) | (refine pl_nilCheck rfl rfl rfl ?_; intro K hK; simp only [Act.put, List.setIfInBounds_toArray, List.set_cons_succ, List.set_cons_zero]; go_big_quiet_on))); refine pl_nil ?_)
  rintro w1 he1 ⟨_, hf1⟩
  obtain ⟨d2, rfl⟩ := he1
  have hr1 := Lib.hid (FeedF.use hf1).1
  clear hf1
  go_wp2; refine only_normal ?_
  go_wp2
  go_loopw [6] (fun i wr => ∃ k : Nat, 1 ≤ k ∧ k ≤ m + 1 ∧ i = .int .i64 k ∧ ∃ (a : Option Addr) (c : Nat) (d : Grow), wr = ((w.ext d1).alloc (.cells #[.int .i64 6, .int .i64 1, .int .i64 1, .int .i64 0, .slice a 1 c, .int .i64 0, .int .i64 0, .int .i64 0] 26)).ext d ∧ Hid (TsO wr a c (panR (k - 1)).Ts)) (fun i _ => m + 1 - (intOf i).toNat)
  case atStart => exact ⟨1, by omega, by omega, rfl, a1, c1, d2, rfl, Lib.hid (hr1.out.turn (b := (w.ext d1).heap.size) (by (repeat (first | exact Like.refl _ _ | refine Like.ext ?_ _ | refine Like.alloc ?_ _ | refine Like.swap ?_ (by simp <;> omega) _ _))) (heap_some_ext (heap_alloc_new (w.ext d1) _) (by (repeat (first | exact Ext.refl _ | assumption | refine Ext.alloc ?_ _ | refine Ext.ext ?_ _ | refine Ext.drew ?_)))))⟩
  case round =>
    obtain ⟨k, hk1, hk2, rfl, a, c, d, rfl, hT⟩ := hrel
    by_cases hlt : k ≤ m
    · have b1 : decide ((k : Int) ≤ (m : Int)) = true := by simpa using hlt
      have q2 := pan_step (k - 1) (by omega)
      rw [show k - 1 + 1 = k by omega, smpl_eq k] at q2
      simp only at q2
      have f2 := Lib.hid fun w a c h => feed_mk (panR (k - 1)) ⟨2, 1, (k : Int) % 8, 0, 10 * (k : Int), 0⟩ (panR_sound (k - 1) (by omega)).ok a c w h
      rw [q2] at f2
      clear q2
      obtain ⟨q, hq⟩ : ∃ q : Rec × Int × List Ges, q = (panR k, 0, []) := ⟨_, rfl⟩
      rw [← hq] at f2
      have hTk : (panR (k - 1)).Ts.length = 1 := rfl
      replace hq := Lib.hid hq
      go_wp2_with fail
      (refine wp_region_segs (fun i => if i = 6 then some (FeedF q, FeedS q) else none) [([0, 1, 2, 3, 4, 5], .m, 6)] [7, 8] [9, 10] [11, 12] (by kernel_rfl) (by kernel_rfl) (by simp only [List.map_cons, List.map_nil, List.filterMap_cons, List.filterMap_nil, List.getElem?_toArray, List.getElem?_cons_succ, List.getElem?_cons_zero]; try exact rfl) (by simp only [List.filterMap_cons, List.filterMap_nil, List.getElem?_toArray, List.getElem?_cons_succ, List.getElem?_cons_zero]; try exact rfl) (by simp only [List.filterMap_cons, List.filterMap_nil, List.getElem?_toArray, List.getElem?_cons_succ, List.getElem?_cons_zero]; try exact rfl) (by simp only [List.filterMap_cons, List.filterMap_nil, List.getElem?_toArray, List.getElem?_cons_succ, List.getElem?_cons_zero]; try exact rfl) (by decide) ?_)
      (refine sg_m ?_; (repeat (first | (refine ql_plain rfl rfl ?_; intro K hK; go_big_quiet_op; go_big_quiet_on) | (refine ql_nilCheck rfl rfl rfl ?_; intro K hK; simp only [Act.put, List.setIfInBounds_toArray, List.set_cons_succ, List.set_cons_zero]; go_big_quiet_on) | (refine ql_call (fun _ => event_any _ _ _ _ _) rfl rfl Try.func23 rfl (by kernel_rfl) rfl ?_; intro K hK; simp only [Act.put, List.setIfInBounds_toArray, List.set_cons_succ, List.set_cons_zero]; go_big_quiet_on) | (refine ql_skip rfl ?_; intro K hK; simp only [Act.put, List.setIfInBounds_toArray, List.set_cons_succ, List.set_cons_zero]; go_big_quiet_on))); refine ql_nil ?_)
      (refine sg_call (f := 20) (FeedF q) (FeedS q) rfl (FeedF.shp q) (FeedF.stable q) (fun d => f2.out _ a c (hT.out.rep.ext (by (repeat (first | exact Ext.refl _ | assumption | refine Ext.alloc ?_ _ | refine Ext.ext ?_ _ | refine Ext.drew ?_))))) (by simp only [List.getElem?_toArray, List.getElem?_cons_succ, List.getElem?_cons_zero]; try exact rfl) rfl rfl Try.func20 rfl (by kernel_rfl) rfl ?_; intro u hu hS K hK; obtain ⟨a2, c2, va2, vn2, vc2, rfl⟩ := hS; simp only [Act.put, List.setIfInBounds_toArray, List.set_cons_succ, List.set_cons_zero]; refine hK _ ?_; clear hK K)
      (refine sg_last ?_; (repeat (first | (refine ql_plain rfl rfl ?_; intro K hK; go_big_quiet_op; go_big_quiet_on) | (refine ql_nilCheck rfl rfl rfl ?_; intro K hK; simp only [Act.put, List.setIfInBounds_toArray, List.set_cons_succ, List.set_cons_zero]; go_big_quiet_on) | fail | (refine ql_skip rfl ?_; intro K hK; simp only [Act.put, List.setIfInBounds_toArray, List.set_cons_succ, List.set_cons_zero]; go_big_quiet_on))); refine ql_nil ?_; (repeat (first | (refine pl_plain rfl rfl ?_; intro K hK; go_big_quiet_op; go_big_quiet_on) | (refine pl_nilCheck rfl rfl rfl ?_; intro K hK; simp only [Act.put, List.setIfInBounds_toArray, List.set_cons_succ, List.set_cons_zero]; go_big_quiet_on))); refine pl_nil ?_)
      rintro w1 he1 ⟨_, hf2⟩
      obtain ⟨d3, rfl⟩ := he1
      have hr2 := (FeedF.use hf2).1
      rw [hq.out] at hr2 ⊢
      clear hf2
      have hr3 : Hid (TsO ((((w.ext d1).alloc (.cells #[.int .i64 6, .int .i64 1, .int .i64 1, .int .i64 0, .slice a2 1 c2, .int .i64 0, .int .i64 0, .int .i64 0] 26)).ext d).ext d3) a2 c2 (panR k).Ts) := hr2.turn (b := (w.ext d1).heap.size) (by (repeat (first | exact Like.refl _ _ | refine Like.ext ?_ _ | refine Like.alloc ?_ _ | refine Like.swap ?_ (by simp <;> omega) _ _))) (heap_some_ext (heap_alloc_new (w.ext d1) _) (by (repeat (first | exact Ext.refl _ | assumption | refine Ext.alloc ?_ _ | refine Ext.ext ?_ _ | refine Ext.drew ?_))))
      clear hr2
      go_wp2; refine only_normal ?_
      go_wp2
      go_roundw
      case rel => exact ⟨k + 1, by omega, by omega, by go_num, a2, c2, d.add d3, by rw [← World.ext_ext]; rfl, by exact hr3⟩
      case measure => simp [intOf]; omega
    · obtain rfl : k = m + 1 := by omega
      have b1 : decide (((m + 1 : Nat) : Int) ≤ (m : Int)) = false := by simp; omega
      refine gen_at (p := fun W => Code.wp _ _ _ _ W) ?_
      intro W hW
      have hT2 : TsO W a c (panR m).Ts := by rw [hW]; exact hT.out
      have hE : Hid (Ext w W) := by
        rw [hW]
        show Ext _ _
        (repeat (first | exact Ext.refl _ | assumption | refine Ext.alloc ?_ _ | refine Ext.ext ?_ _ | refine Ext.drew ?_))
      have c4 : W.cell? ⟨w.heap.size + d1.size, 4, none⟩ = some (.slice a 1 c) := by
        have hh := heap_at w d1 (.cells #[.int .i64 6, .int .i64 1, .int .i64 1, .int .i64 0, .slice a 1 c, .int .i64 0, .int .i64 0, .int .i64 0] 26) (Ext.ext (Ext.refl _) d)
        rw [← hW] at hh
        simp only [World.cell?, hh]; rfl
      clear hW hT
      rcases hT2.rep with hT2 | ⟨b, off, rfl, ht⟩
      · cases hT2
      obtain ⟨sb, so, sc, hmt⟩ := ht.one
      have hb := hmt.lt
      have hb4 := World.block_lt_of_cell? W _ c4
      simp only at hb4
      obtain ⟨L, hL⟩ : ∃ L, L = (panS m).length := ⟨_, rfl⟩
      have hLn := panS_len m
      rw [← hL] at hLn
      have p0 : W.cell? ⟨b, off, none⟩ = some (.int .i64 1) := hmt.c0
      have p1 : W.cell? ⟨b, off + 1, none⟩ = some (.int .i64 0) := hmt.c1
      have p2 : W.cell? ⟨b, off + 2, none⟩ = some (.int .i64 0) := hmt.c2
      have p3 : W.cell? ⟨b, off + 3, none⟩ = some (.int .i64 0) := hmt.c3
      have p4 : W.cell? ⟨b, off + 4, none⟩ = some (.slice (some ⟨sb, so, none⟩) L sc) := by rw [hL]; exact hmt.c4
      have hss : Hid (∀ j, j < L → W.cell? ⟨sb, so + j * 3, none⟩ = some (.int .i64 (((m + 1 - L + j : Nat) : Int) % 8)) ∧ W.cell? ⟨sb, so + j * 3 + 1, none⟩ = some (.int .i64 0) ∧ W.cell? ⟨sb, so + j * 3 + 2, none⟩ = some (.int .i64 (10 * ((m + 1 - L + j : Nat) : Int)))) := by
        intro j hj
        have h1 := hmt.ss j (by simpa [← hL] using hj)
        have h2 := panS_get m j (by omega)
        have h3 : nth (panS m) j = smpl (m + 1 - L + j) := by
          rw [nth_eq _ _ (by omega)]
          rw [List.getElem?_eq_getElem (by omega)] at h2
          simp only [Option.some.injEq] at h2
          rw [h2, hL]
        simp only at h1
        rw [h3, smpl_eq] at h1
        exact h1
      have bL : ((L : Int) == mn ((m : Int) + 1) 8) = true := by
        simp only [beq_iff_eq]; unfold mn; split <;> omega
      have hL8 : L ≤ 8 ∧ L ≤ m + 1 := by omega
      replace hL := Lib.hid hL
      replace hLn := Lib.hid hLn
      obtain ⟨hL8, hLm⟩ := hL8
      clear hmt ht hT2
      go_wp2
      go_loopw [9] (fun i wr => ∃ j : Nat, j ≤ L ∧ i = .int .i64 j ∧ Ext W wr) (fun i _ => L - (intOf i).toNat)
      case atStart => exact ⟨0, by omega, rfl, by (repeat (first | exact Ext.refl _ | assumption | refine Ext.alloc ?_ _ | refine Ext.ext ?_ _ | refine Ext.drew ?_))⟩
      case round =>
        obtain ⟨j, hj, rfl, d5, rfl⟩ := hrel
        by_cases hjl : j < L
        · obtain ⟨s0, s1, s2⟩ := hss.out j hjl
          obtain ⟨kk, hkk⟩ : ∃ kk, kk = m + 1 - L + j := ⟨_, rfl⟩
          rw [← hkk] at s0 s2
          have hki : (m : Int) - (L : Int) + 1 + (j : Int) = (kk : Int) := by omega
          have hk24 : kk ≤ 24 := by omega
          have hsb := World.block_lt_of_cell? W _ s0
          simp only at hsb
          clear hkk
          go_wp2
          go_roundw
          case rel => exact ⟨j + 1, by omega, by go_num, by (repeat (first | exact Ext.refl _ | assumption | refine Ext.alloc ?_ _ | refine Ext.ext ?_ _ | refine Ext.drew ?_))⟩
          case measure => simp [intOf]; omega
        · obtain rfl : j = L := by omega
          go_wp2_with fail
          refine (awake_any _).mono ?_
          rintro x w1 ⟨rfl, d6, rfl⟩
          go_wp2
          go_ret
          refine ⟨rfl, Ext.trans hE.out ?_⟩
          (repeat (first | exact Ext.refl _ | assumption | refine Ext.alloc ?_ _ | refine Ext.ext ?_ _ | refine Ext.drew ?_))
end Go.Proofs.Ytendgmnbnnkpnaa.G
