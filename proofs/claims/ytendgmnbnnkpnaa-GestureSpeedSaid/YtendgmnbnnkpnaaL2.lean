/- Win, with the rows' types. -/
import Derived.Test.YtendgmnbnnkpnaaK9
import Derived.WalkKit
import Derived.WalkSpells
import Derived.WalkLawsBesides
import Derived.Deep.QuietTactic
import Derived.BigQuiet
import Derived.BigRegion
import Derived.Lib.Hide
import Derived.Deep.RegionWith
set_option linter.unusedSimpArgs false
set_option linter.unusedVariables false
namespace Go.Proofs.Ytendgmnbnnkpnaa.G
open Go.RowKit
set_option maxHeartbeats 1000000 in
theorem win_o (r : Rec) (h : ROk r) (a : Option Addr) (cap : Nat) (w : World) (hr : RepT w a r.Ts) :
    Calls Try.prog 22 #[.agg #[.int .i64 r.Kind, .int .i64 r.Node, .int .i64 r.State, .int .i64 r.Count, .slice a r.Ts.length cap, .int .i64 r.L.X, .int .i64 r.L.Y, .int .i64 r.L.T]] w fun e w' =>
      ∃ a' c' v, e = .returned (.tuple #[.agg (recC (win r).1 a' c').toArray, v]) ∧ Ext w w' ∧ TsO w' a' c' (win r).1.Ts ∧ RepG w' v (win r).2 := by
  have hcl := Lib.hid (clone_r r h a cap)
  have hts := Lib.hid h.ts
  by_cases h2 : r.State = 2
  · by_cases hc : cont r.Kind = true
    · have hw : win r = ({ r with State := 3, Count := 1 }, [stageG r 2, stageG r 3]) := by simp [win, h2, hc]
      rw [hw]
      have hk : (r.State == 2) = true := by simpa using h2
      have hl := h.sure hc (.inl h2)
      have h' : ROk { r with State := 3, Count := 1 } := ⟨h.kind, h.node, by simp, by simp, h.last, h.len, h.ts, by simp, fun _ _ => hl⟩
      have m2 : ∀ (a : Option Addr) (cap : Nat) (w : World), _ := fun a cap w => moves_r { r with State := 3, Count := 1 } h' hc hl 2 (by simp) a cap w
      have m3 : ∀ (a : Option Addr) (cap : Nat) (w : World), _ := fun a cap w => moves_r { r with State := 3, Count := 1 } h' hc hl 3 (by simp) a cap w
      have e2 : stageG { r with State := 3, Count := 1 } 2 = stageG r 2 := rfl
      have e3 : stageG { r with State := 3, Count := 1 } 3 = stageG r 3 := rfl
      rw [e2] at m2
      rw [e3] at m3
      obtain ⟨G, hG⟩ : ∃ G, G = stageG r 2 := ⟨_, rfl⟩
      obtain ⟨K, hK⟩ : ∃ K, K = stageG r 3 := ⟨_, rfl⟩
      rw [← hG] at m2 ⊢
      rw [← hK] at m3 ⊢
      simp only [gesV] at m2 m3
      replace m2 := Lib.hid m2
      replace m3 := Lib.hid m3
      replace h2 := Lib.hid h2
      clear e2 e3 hG hK hw h' hl
      go_enter Try.func22, Try.ntmps22
      go_wp2_with fail
      refine (hcl.out _ (hr.ext (by (repeat (first | exact Ext.refl _ | assumption | refine Ext.alloc ?_ _ | refine Ext.ext ?_ _ | refine Ext.drew ?_))))).mono ?_
      rintro e w1 ⟨a1, c1, rfl, ⟨d1, rfl⟩, hown⟩
      go_wp2_with (go_at_call 34; refine (cont_any _ _).mono ?_; rintro e w' ⟨rfl, rfl⟩)
      have hrz : ∀ (z : Array Value) (d : Grow), TsO ((((w.alloc (.cells #[.int .i64 r.Kind, .int .i64 r.Node, .int .i64 3, .int .i64 1, .slice a1 r.Ts.length c1, .int .i64 r.L.X, .int .i64 r.L.Y, .int .i64 r.L.T] 26)).alloc (.cells z 26)).ext d1).ext d) a1 c1 r.Ts := fun z d => .inr (((OwnT.weak hts.out (hown.like (S := fun k => k < w.heap.size + 2) (Y := ((w.alloc (.cells #[.int .i64 r.Kind, .int .i64 r.Node, .int .i64 3, .int .i64 1, .slice a1 r.Ts.length c1, .int .i64 r.L.X, .int .i64 r.L.Y, .int .i64 r.L.T] 26)).alloc (.cells z 26)).ext d1) (by (repeat (first | exact Like.refl _ _ | refine Like.ext ?_ _ | refine Like.alloc ?_ _ | refine Like.swap ?_ (by simp <;> omega) _ _))) (by simp))).base (Nat.zero_le _)).ext (Ext.ext (Ext.refl _) d))
      replace hrz := Lib.hid hrz
      clear hown hcl
      (refine wp_region_calm_z (fun z => ((w.alloc (.cells #[.int .i64 r.Kind, .int .i64 r.Node, .int .i64 3, .int .i64 1, .slice a1 r.Ts.length c1, .int .i64 r.L.X, .int .i64 r.L.Y, .int .i64 r.L.T] 26)).alloc (.cells z 26)).ext d1) 6 [0, 1, 2, 3, 4] [5] [] [7] #[.int .i64 r.Kind, .int .i64 r.Node, .int .i64 3, .int .i64 1, .slice a1 r.Ts.length c1, .int .i64 r.L.X, .int .i64 r.L.Y, .int .i64 r.L.T] (by kernel_rfl) (by kernel_rfl) (by simp only [List.filterMap_cons, List.filterMap_nil, List.getElem?_toArray, List.getElem?_cons_succ, List.getElem?_cons_zero]; try exact rfl) (by simp only [List.filterMap_cons, List.filterMap_nil, List.getElem?_toArray, List.getElem?_cons_succ, List.getElem?_cons_zero]; try exact rfl) (by simp only [List.filterMap_cons, List.filterMap_nil, List.getElem?_toArray, List.getElem?_cons_succ, List.getElem?_cons_zero]; try exact rfl) (by intro z; simp) ?_; (repeat (first | (refine ql_plain rfl rfl ?_; intro K hK; go_big_quiet_op; go_big_quiet_on) | (refine ql_nilCheck rfl rfl rfl ?_; intro K hK; simp only [Act.put, List.setIfInBounds_toArray, List.set_cons_succ, List.set_cons_zero]; go_big_quiet_on) | (refine ql_callz (fun _ _ => (m2.out _ _ _ (hrz.out _ _).rep)) rfl rfl Try.func39 rfl (by kernel_rfl) rfl ?_; intro K hK; simp only [Act.put, List.setIfInBounds_toArray, List.set_cons_succ, List.set_cons_zero]; go_big_quiet_on) | (refine ql_callz (fun _ _ => (m3.out _ _ _ (hrz.out _ _).rep)) rfl rfl Try.func39 rfl (by kernel_rfl) rfl ?_; intro K hK; simp only [Act.put, List.setIfInBounds_toArray, List.set_cons_succ, List.set_cons_zero]; go_big_quiet_on) | (refine ql_skip rfl ?_; intro K hK; simp only [Act.put, List.setIfInBounds_toArray, List.set_cons_succ, List.set_cons_zero]; go_big_quiet_on))); refine ql_nil ?_; refine ⟨?_, ?_⟩; (focus (refine wo1z (Wf := (fun z => ((w.alloc (.cells #[.int .i64 r.Kind, .int .i64 r.Node, .int .i64 3, .int .i64 1, .slice a1 r.Ts.length c1, .int .i64 r.L.X, .int .i64 r.L.Y, .int .i64 r.L.T] 26)).alloc (.cells z 26)).ext d1)) (z1 := #[.int .i64 r.Kind, .int .i64 r.Node, .int .i64 3, .int .i64 1, .slice a1 r.Ts.length c1, .int .i64 r.L.X, .int .i64 r.L.Y, .int .i64 r.L.T]) ?_ (by simp only [List.getElem?_toArray, List.getElem?_cons_succ, List.getElem?_cons_zero]; try exact rfl) ?_ ?_ ?_; intro z; simp; rfl; rfl; intro d; go_simp)))
      refine mw1 (mkz_sl (.cells (#[.int .i64 (G).Kind, .int .i64 (G).Node, .int .i64 (G).Phase, .int .i64 (G).X, .int .i64 (G).Y, .int .i64 (G).DX, .int .i64 (G).DY, .int .i64 (G).Scale, .int .i64 (G).VX, .int .i64 (G).VY] ++ #[.int .i64 (K).Kind, .int .i64 (K).Node, .int .i64 (K).Phase, .int .i64 (K).X, .int .i64 (K).Y, .int .i64 (K).DX, .int .i64 (K).DY, .int .i64 (K).Scale, .int .i64 (K).VX, .int .i64 (K).VY]) 49) 2 (by intro z; simp) (by simp only [List.getElem?_toArray, List.getElem?_cons_succ, List.getElem?_cons_zero]; try exact rfl) rfl (fun z d => by go_simp)) ?_; intro u1 hu1 K hK; simp only [Act.put, List.setIfInBounds_toArray, List.set_cons_succ, List.set_cons_zero, List.getElem?_toArray, List.getElem?_cons_succ, List.getElem?_cons_zero, Option.bind_some]; refine hK _ ?_; clear hK K; (repeat (first | (refine pl_plain rfl rfl ?_; intro K hK; go_big_quiet_op; go_big_quiet_on) | (refine pl_nilCheck rfl rfl rfl ?_; intro K hK; simp only [Act.put, List.setIfInBounds_toArray, List.set_cons_succ, List.set_cons_zero]; go_big_quiet_on))); refine pl_nil ?_; rintro w1 he1 ⟨_, hf1⟩
      obtain ⟨g1, rfl, hg⟩ := hf1
      obtain ⟨d2, rfl⟩ := he1
      go_wp2; refine only_normal ?_
      go_wp2
      (refine bodyPost_ret (v := ?_) (by simp [results, Try.results22, go_sem]; rfl) rfl ?_)
      refine ⟨a1, c1, _, rfl, ?_, hrz.out _ _, repG_two hg⟩
      (repeat (first | exact Ext.refl _ | assumption | refine Ext.alloc ?_ _ | refine Ext.ext ?_ _ | refine Ext.drew ?_))
    · have hw : win r = (over r, [onceG r]) := by simp [win, h2, hc]
      rw [hw]
      have hk : (r.State == 2) = true := by simpa using h2
      have hk2 : cont r.Kind = false := by simpa using hc
      replace h2 := Lib.hid h2
      obtain ⟨G, hG⟩ : ∃ G, G = onceG r := ⟨_, rfl⟩
      have ho := once_r r h
      rw [← hG] at ho ⊢
      simp only [gesV] at ho
      replace ho := Lib.hid ho
      clear hc hw
      go_enter Try.func22, Try.ntmps22
      go_wp2_with fail
      refine (hcl.out _ (hr.ext (by (repeat (first | exact Ext.refl _ | assumption | refine Ext.alloc ?_ _ | refine Ext.ext ?_ _ | refine Ext.drew ?_))))).mono ?_
      rintro e w1 ⟨a1, c1, rfl, ⟨d1, rfl⟩, hown⟩
      go_wp2_with (go_at_call 34; refine (cont_any _ _).mono ?_; rintro e w' ⟨rfl, rfl⟩)
      have hrep := hown.rep
      have hrz : ∀ (z : Array Value) (d : Grow), TsO ((((w.alloc (.cells #[.int .i64 r.Kind, .int .i64 r.Node, .int .i64 r.State, .int .i64 r.Count, .slice a1 r.Ts.length c1, .int .i64 r.L.X, .int .i64 r.L.Y, .int .i64 r.L.T] 26)).alloc (.cells z 26)).ext d1).ext d) a1 c1 r.Ts := fun z d => .inr (((OwnT.weak hts.out (hown.like (S := fun k => k < w.heap.size + 2) (Y := ((w.alloc (.cells #[.int .i64 r.Kind, .int .i64 r.Node, .int .i64 r.State, .int .i64 r.Count, .slice a1 r.Ts.length c1, .int .i64 r.L.X, .int .i64 r.L.Y, .int .i64 r.L.T] 26)).alloc (.cells z 26)).ext d1) (by (repeat (first | exact Like.refl _ _ | refine Like.ext ?_ _ | refine Like.alloc ?_ _ | refine Like.swap ?_ (by simp <;> omega) _ _))) (by simp))).base (Nat.zero_le _)).ext (Ext.ext (Ext.refl _) d))
      replace hrz := Lib.hid hrz
      clear hown hcl
      (refine wp_region_calm_z (fun z => ((w.alloc (.cells #[.int .i64 r.Kind, .int .i64 r.Node, .int .i64 r.State, .int .i64 r.Count, .slice a1 r.Ts.length c1, .int .i64 r.L.X, .int .i64 r.L.Y, .int .i64 r.L.T] 26)).alloc (.cells z 26)).ext d1) 5 [0, 1, 2, 3] [4] [] [6] #[.int .i64 r.Kind, .int .i64 r.Node, .int .i64 4, .int .i64 r.Count, .slice none 0 0, .int .i64 r.L.X, .int .i64 r.L.Y, .int .i64 r.L.T] (by kernel_rfl) (by kernel_rfl) (by simp only [List.filterMap_cons, List.filterMap_nil, List.getElem?_toArray, List.getElem?_cons_succ, List.getElem?_cons_zero]; try exact rfl) (by simp only [List.filterMap_cons, List.filterMap_nil, List.getElem?_toArray, List.getElem?_cons_succ, List.getElem?_cons_zero]; try exact rfl) (by simp only [List.filterMap_cons, List.filterMap_nil, List.getElem?_toArray, List.getElem?_cons_succ, List.getElem?_cons_zero]; try exact rfl) (by intro z; simp) ?_; (repeat (first | (refine ql_plain rfl rfl ?_; intro K hK; go_big_quiet_op; go_big_quiet_on) | (refine ql_nilCheck rfl rfl rfl ?_; intro K hK; simp only [Act.put, List.setIfInBounds_toArray, List.set_cons_succ, List.set_cons_zero]; go_big_quiet_on) | (refine ql_callz (fun _ _ => over_any _ _ _ _ _ _ _ _ _ _ _) rfl rfl Try.func37 rfl (by kernel_rfl) rfl ?_; intro K hK; simp only [Act.put, List.setIfInBounds_toArray, List.set_cons_succ, List.set_cons_zero]; go_big_quiet_on) | (refine ql_callz (fun _ _ => (ho.out _ _ _ (hrz.out _ _).rep)) rfl rfl Try.func38 rfl (by kernel_rfl) rfl ?_; intro K hK; simp only [Act.put, List.setIfInBounds_toArray, List.set_cons_succ, List.set_cons_zero]; go_big_quiet_on) | (refine ql_skip rfl ?_; intro K hK; simp only [Act.put, List.setIfInBounds_toArray, List.set_cons_succ, List.set_cons_zero]; go_big_quiet_on))); refine ql_nil ?_; refine ⟨?_, ?_⟩; (focus (refine wo1z (Wf := (fun z => ((w.alloc (.cells #[.int .i64 r.Kind, .int .i64 r.Node, .int .i64 r.State, .int .i64 r.Count, .slice a1 r.Ts.length c1, .int .i64 r.L.X, .int .i64 r.L.Y, .int .i64 r.L.T] 26)).alloc (.cells z 26)).ext d1)) (z1 := #[.int .i64 r.Kind, .int .i64 r.Node, .int .i64 4, .int .i64 r.Count, .slice none 0 0, .int .i64 r.L.X, .int .i64 r.L.Y, .int .i64 r.L.T]) ?_ (by simp only [List.getElem?_toArray, List.getElem?_cons_succ, List.getElem?_cons_zero]; try exact rfl) ?_ ?_ ?_; intro z; simp; rfl; rfl; intro d; go_simp)))
      refine mw1 (mkz_sl (.cells #[.int .i64 (G).Kind, .int .i64 (G).Node, .int .i64 (G).Phase, .int .i64 (G).X, .int .i64 (G).Y, .int .i64 (G).DX, .int .i64 (G).DY, .int .i64 (G).Scale, .int .i64 (G).VX, .int .i64 (G).VY] 49) 1 (by intro z; simp) (by simp only [List.getElem?_toArray, List.getElem?_cons_succ, List.getElem?_cons_zero]; try exact rfl) rfl (fun z d => by go_simp)) ?_; intro u1 hu1 K hK; simp only [Act.put, List.setIfInBounds_toArray, List.set_cons_succ, List.set_cons_zero, List.getElem?_toArray, List.getElem?_cons_succ, List.getElem?_cons_zero, Option.bind_some]; refine hK _ ?_; clear hK K; (repeat (first | (refine pl_plain rfl rfl ?_; intro K hK; go_big_quiet_op; go_big_quiet_on) | (refine pl_nilCheck rfl rfl rfl ?_; intro K hK; simp only [Act.put, List.setIfInBounds_toArray, List.set_cons_succ, List.set_cons_zero]; go_big_quiet_on))); refine pl_nil ?_; rintro w1 he1 ⟨_, hf1⟩
      obtain ⟨g1, rfl, hg⟩ := hf1
      obtain ⟨d2, rfl⟩ := he1
      go_wp2; refine only_normal ?_
      go_wp2
      (refine bodyPost_ret (v := ?_) (by simp [results, Try.results22, go_sem]; rfl) rfl ?_)
      refine ⟨none, 0, _, rfl, ?_, .inl rfl, repG_one hg⟩
      (repeat (first | exact Ext.refl _ | assumption | refine Ext.alloc ?_ _ | refine Ext.ext ?_ _ | refine Ext.drew ?_))
  · have hk : (r.State == 2) = false := by simpa using h2
    by_cases h01 : r.State = 0 ∨ r.State = 1
    · have hw : win r = ({ r with State := 3 }, []) := by simp [win, h2, h01]
      rw [hw]
      clear hw h2
      by_cases h0 : r.State = 0
      · have hk0 : (r.State == 0) = true := by simpa using h0
        clear h0 h01
        go_enter Try.func22, Try.ntmps22
        go_wp2_with fail
        refine (hcl.out _ (hr.ext (by (repeat (first | exact Ext.refl _ | assumption | refine Ext.alloc ?_ _ | refine Ext.ext ?_ _ | refine Ext.drew ?_))))).mono ?_
        rintro e w1 ⟨a1, c1, rfl, ⟨d1, rfl⟩, hown⟩
        have hrz : ∀ (st z : Array Value), TsO (((w.alloc (.cells st 26)).alloc (.cells z 26)).ext d1) a1 c1 r.Ts := fun st z => .inr ((OwnT.weak hts.out (hown.like (S := fun k => k < w.heap.size + 2) (by (repeat (first | exact Like.refl _ _ | refine Like.ext ?_ _ | refine Like.alloc ?_ _ | refine Like.swap ?_ (by simp <;> omega) _ _))) (by simp))).base (Nat.zero_le _))
        replace hrz := Lib.hid hrz
        clear hown
        go_wp2
        (refine bodyPost_ret (v := ?_) (by simp [results, Try.results22, go_sem]; rfl) rfl ?_)
        refine ⟨a1, c1, _, rfl, ?_, hrz.out _ _, .inl ⟨rfl, _, _, rfl⟩⟩
        (repeat (first | exact Ext.refl _ | assumption | refine Ext.alloc ?_ _ | refine Ext.ext ?_ _ | refine Ext.drew ?_))
      · have hk0 : (r.State == 0) = false := by simpa using h0
        have hk1 : (r.State == 1) = true := by simp; omega
        clear h0 h01
        go_enter Try.func22, Try.ntmps22
        go_wp2_with fail
        refine (hcl.out _ (hr.ext (by (repeat (first | exact Ext.refl _ | assumption | refine Ext.alloc ?_ _ | refine Ext.ext ?_ _ | refine Ext.drew ?_))))).mono ?_
        rintro e w1 ⟨a1, c1, rfl, ⟨d1, rfl⟩, hown⟩
        have hrz : ∀ (st z : Array Value), TsO (((w.alloc (.cells st 26)).alloc (.cells z 26)).ext d1) a1 c1 r.Ts := fun st z => .inr ((OwnT.weak hts.out (hown.like (S := fun k => k < w.heap.size + 2) (by (repeat (first | exact Like.refl _ _ | refine Like.ext ?_ _ | refine Like.alloc ?_ _ | refine Like.swap ?_ (by simp <;> omega) _ _))) (by simp))).base (Nat.zero_le _))
        replace hrz := Lib.hid hrz
        clear hown
        go_wp2
        (refine bodyPost_ret (v := ?_) (by simp [results, Try.results22, go_sem]; rfl) rfl ?_)
        refine ⟨a1, c1, _, rfl, ?_, hrz.out _ _, .inl ⟨rfl, _, _, rfl⟩⟩
        (repeat (first | exact Ext.refl _ | assumption | refine Ext.alloc ?_ _ | refine Ext.ext ?_ _ | refine Ext.drew ?_))
    · have hw : win r = (r, []) := by simp [win, h2, h01]
      rw [hw]
      have hk0 : (r.State == 0) = false := by simp; omega
      have hk1 : (r.State == 1) = false := by simp; omega
      clear hw h2 h01
      go_enter Try.func22, Try.ntmps22
      go_wp2_with fail
      refine (hcl.out _ (hr.ext (by (repeat (first | exact Ext.refl _ | assumption | refine Ext.alloc ?_ _ | refine Ext.ext ?_ _ | refine Ext.drew ?_))))).mono ?_
      rintro e w1 ⟨a1, c1, rfl, ⟨d1, rfl⟩, hown⟩
      have hrz : ∀ (st z : Array Value), TsO (((w.alloc (.cells st 26)).alloc (.cells z 26)).ext d1) a1 c1 r.Ts := fun st z => .inr ((OwnT.weak hts.out (hown.like (S := fun k => k < w.heap.size + 2) (by (repeat (first | exact Like.refl _ _ | refine Like.ext ?_ _ | refine Like.alloc ?_ _ | refine Like.swap ?_ (by simp <;> omega) _ _))) (by simp))).base (Nat.zero_le _))
      replace hrz := Lib.hid hrz
      clear hown
      go_wp2
      (refine bodyPost_ret (v := ?_) (by simp [results, Try.results22, go_sem]; rfl) rfl ?_)
      refine ⟨a1, c1, _, rfl, ?_, hrz.out _ _, .inl ⟨rfl, _, _, rfl⟩⟩
      (repeat (first | exact Ext.refl _ | assumption | refine Ext.alloc ?_ _ | refine Ext.ext ?_ _ | refine Ext.drew ?_))
end Go.Proofs.Ytendgmnbnnkpnaa.G
