/- pinch, walked. -/
import Derived.Test.YtendgmnbnnkpnaaUC
import Derived.WalkKit
import Derived.WalkSpells
import Derived.WalkLawsBesides
import Derived.Deep.QuietTactic
import Derived.BigQuiet
import Derived.BigRegion
import Derived.Lib.Hide
import Derived.Deep.RegionWith
set_option linter.unusedSimpArgs false
set_option linter.unusedVariables false
namespace Go.Proofs.Ytendgmnbnnkpnaa.G
open Go.RowKit

set_option maxHeartbeats 1000000 in
theorem pinch_later (k n s c lx ly lt p : Int) (b off cap : Nat) (t u : Tch) (sb so scap ub uo ucap : Nat) (w : World) (h : TOk t) (hu : TOk u) (hm : TchAt w b off t sb so scap) (hmu : TchAt w b (off + 5) u ub uo ucap) (hp : ¬ p = 2) :
    Calls Try.prog 64 #[.agg #[.int .i64 k, .int .i64 n, .int .i64 s, .int .i64 c, .slice (some ⟨b, off, none⟩) 2 cap, .int .i64 lx, .int .i64 ly, .int .i64 lt], .int .i64 p] w fun e w' =>
      e = .returned (gesV (pinchG ⟨k, n, s, c, [t, u], ⟨lx, ly, lt⟩⟩ t u p)) ∧ Ext w w' := by
  have hb := hm.lt
  have hlt := Lib.hid fun w' (he : Ext w w') => latest_t t sb so scap w' h (hm.ss.ext he)
  have hlu := Lib.hid fun w' (he : Ext w w') => latest_t u ub uo ucap w' hu (hmu.ss.ext he)
  have hsp := Lib.hid fun k n s c lx ly lt w' (he : Ext w w') => spread_any k n s c lx ly lt b off cap t u sb so scap ub uo ucap w' h hu (hm.ext he) (hmu.ext he)
  have b1 := placed_bd h.f
  have b2 := placed_bd (latest_placed h)
  have b3 := placed_bd hu.f
  have b4 := placed_bd (latest_placed hu)
  have d1 := dist_bd (latest_placed h) (latest_placed hu)
  have d2 := dist_bd h.f hu.f
  obtain ⟨c0, c1, c2, c3, c4, _⟩ := hm
  obtain ⟨e0, e1, e2, e3, e4, _⟩ := hmu
  obtain ⟨g, hg⟩ : ∃ g, pinchG ⟨k, n, s, c, [t, u], ⟨lx, ly, lt⟩⟩ t u p = g := ⟨_, rfl⟩
  rw [hg]
  simp only [pinchG] at hg
  generalize hdd : dist (latest t) (latest u) = dd at *
  replace hdd := Lib.hid hdd
  generalize dist t.F u.F = dF at *
  have hdf : 1 ≤ mx dF 1 ∧ mx dF 1 ≤ 2097152 := by unfold mx; split <;> omega
  generalize mx dF 1 = dm at *
  generalize latest t = z at *
  generalize latest u = y at *
  replace hg := Lib.hid hg
  have hp' : (p == 2) = false := by simpa using hp
  replace hp := Lib.hid hp
  go_enter Try.func64, Try.ntmps64
  go_wp2
  (refine wp_region_calm_ops [0, 1, 2, 3, 4, 5, 6, 7, 8, 9] [10, 11] [] [12, 13] (by kernel_rfl) (by kernel_rfl) (by simp only [List.filterMap_cons, List.filterMap_nil, List.getElem?_toArray, List.getElem?_cons_succ, List.getElem?_cons_zero]; try exact rfl) (by simp only [List.filterMap_cons, List.filterMap_nil, List.getElem?_toArray, List.getElem?_cons_succ, List.getElem?_cons_zero]; try exact rfl) (by simp only [List.filterMap_cons, List.filterMap_nil, List.getElem?_toArray, List.getElem?_cons_succ, List.getElem?_cons_zero]; try exact rfl) ?_; (repeat (first | (refine ql_plain rfl rfl ?_; intro K hK; go_big_quiet_op; go_big_quiet_on) | (refine ql_nilCheck rfl rfl rfl ?_; intro K hK; simp only [Act.put, List.setIfInBounds_toArray, List.set_cons_succ, List.set_cons_zero]; go_big_quiet_on) | (refine ql_call (fun _ => hlt.out _ (by (repeat (first | exact Ext.refl _ | assumption | refine Ext.alloc ?_ _ | refine Ext.ext ?_ _ | refine Ext.drew ?_)))) rfl rfl Try.func65 rfl (by kernel_rfl) rfl ?_; intro K hK; simp only [Act.put, List.setIfInBounds_toArray, List.set_cons_succ, List.set_cons_zero]; go_big_quiet_on) | (refine ql_call (fun _ => hlu.out _ (by (repeat (first | exact Ext.refl _ | assumption | refine Ext.alloc ?_ _ | refine Ext.ext ?_ _ | refine Ext.drew ?_)))) rfl rfl Try.func65 rfl (by kernel_rfl) rfl ?_; intro K hK; simp only [Act.put, List.setIfInBounds_toArray, List.set_cons_succ, List.set_cons_zero]; go_big_quiet_on) | (refine ql_skip rfl ?_; intro K hK; simp only [Act.put, List.setIfInBounds_toArray, List.set_cons_succ, List.set_cons_zero]; go_big_quiet_on))); refine ql_nil ?_)
  refine mw2 (mk_ptr (.cells #[.int .i64 0, .int .i64 0, .int .i64 0] 24) (by simp only [List.getElem?_toArray, List.getElem?_cons_succ, List.getElem?_cons_zero]; try exact rfl) rfl (fun d => by go_simp)) (mk_ptr (.cells #[.int .i64 0, .int .i64 0, .int .i64 0] 24) (by simp only [List.getElem?_toArray, List.getElem?_cons_succ, List.getElem?_cons_zero]; try exact rfl) rfl (fun d => by go_simp)) ?_; intro u1 u2 hu1 hu2 hu12 K hK; simp only [Act.put, List.setIfInBounds_toArray, List.set_cons_succ, List.set_cons_zero, List.getElem?_toArray, List.getElem?_cons_succ, List.getElem?_cons_zero, Option.bind_some]; refine hK _ ?_; clear hK K; (repeat (first | (refine pl_plain rfl rfl ?_; intro K hK; go_big_quiet_op; go_big_quiet_on) | (refine pl_nilCheck rfl rfl rfl ?_; intro K hK; simp only [Act.put, List.setIfInBounds_toArray, List.set_cons_succ, List.set_cons_zero]; go_big_quiet_on))); refine pl_nil ?_; rintro w1 he1 ⟨⟨_, hf1⟩, hf2⟩; rcases he1.split2 hf1 hf2 hu1 hu2 hu12 with ⟨d1, d2, d3, rfl, rfl, rfl⟩ | ⟨d1, d2, d3, rfl, rfl, rfl⟩ <;> clear hu1 hu2 hu12 hf1 hf2 he1
  all_goals
    go_wp2; refine only_normal ?_
    go_wp2_with (first | (go_at_call 87; refine (hsp.out _ _ _ _ _ _ _ _ (by (repeat (first | exact Ext.refl _ | assumption | refine Ext.alloc ?_ _ | refine Ext.ext ?_ _ | refine Ext.drew ?_)))).mono ?_; rintro e w' ⟨rfl, d, rfl⟩) | (go_at_call 41; refine (floor_any _ _ _ (by omega) (by omega) (by omega) (by omega)).mono ?_; rintro e w' ⟨rfl, rfl⟩))
    (refine wp_region_calm_ops [0, 1, 2, 3, 4, 5, 6, 7, 8, 9, 10, 11, 12] [] [] [13, 14, 15] (by kernel_rfl) (by kernel_rfl) (by simp only [List.filterMap_cons, List.filterMap_nil, List.getElem?_toArray, List.getElem?_cons_succ, List.getElem?_cons_zero]; try exact rfl) (by simp only [List.filterMap_cons, List.filterMap_nil, List.getElem?_toArray, List.getElem?_cons_succ, List.getElem?_cons_zero]; try exact rfl) (by simp only [List.filterMap_cons, List.filterMap_nil, List.getElem?_toArray, List.getElem?_cons_succ, List.getElem?_cons_zero]; try exact rfl) ?_; (repeat (first | (refine ql_plain rfl rfl ?_; intro K hK; go_big_quiet_op; go_big_quiet_on) | (refine ql_nilCheck rfl rfl rfl ?_; intro K hK; simp only [Act.put, List.setIfInBounds_toArray, List.set_cons_succ, List.set_cons_zero]; go_big_quiet_on) | (refine ql_call (fun _ => floor_x _ _ _ (by omega) (by omega) (by omega) (by omega)) rfl rfl Try.func41 rfl (by kernel_rfl) rfl ?_; intro K hK; simp only [Act.put, List.setIfInBounds_toArray, List.set_cons_succ, List.set_cons_zero]; go_big_quiet_on) | (refine ql_skip rfl ?_; intro K hK; simp only [Act.put, List.setIfInBounds_toArray, List.set_cons_succ, List.set_cons_zero]; go_big_quiet_on))); refine ql_nil ?_)
    refine mw0 ?_; (repeat (first | (refine pl_plain rfl rfl ?_; intro K hK; go_big_quiet_op; go_big_quiet_on) | (refine pl_nilCheck rfl rfl rfl ?_; intro K hK; simp only [Act.put, List.setIfInBounds_toArray, List.set_cons_succ, List.set_cons_zero]; go_big_quiet_on))); refine pl_nil ?_; rintro w1 ⟨d1, rfl⟩ -
    go_wp2; refine only_normal ?_
    go_wp2
    (refine bodyPost_ret (v := ?_) (by simp [results, Try.results64, go_sem]; rfl) rfl ?_)
    refine ⟨?_, ?_⟩
    · rw [← hg.out]; simp only [gesV, if_neg hp.out, hdd.out]
    · (repeat (first | exact Ext.refl _ | assumption | refine Ext.alloc ?_ _ | refine Ext.ext ?_ _ | refine Ext.drew ?_))
end Go.Proofs.Ytendgmnbnnkpnaa.G
