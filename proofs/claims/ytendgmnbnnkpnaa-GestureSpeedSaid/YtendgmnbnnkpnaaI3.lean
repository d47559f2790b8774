/- Abort, walked. -/
import Derived.Test.YtendgmnbnnkpnaaI2
import Derived.WalkKit
import Derived.WalkSpells
import Derived.WalkLawsBesides
import Derived.Deep.QuietTactic
import Derived.BigQuiet
import Derived.BigRegion
import Derived.Lib.Hide
import Derived.Deep.RegionWith
set_option linter.unusedSimpArgs false
set_option linter.unusedVariables false
namespace Go.Proofs.Ytendgmnbnnkpnaa.G
open Go.RowKit
def gesL (g : Ges) : List Value := [.int .i64 g.Kind, .int .i64 g.Node, .int .i64 g.Phase, .int .i64 g.X, .int .i64 g.Y, .int .i64 g.DX, .int .i64 g.DY, .int .i64 g.Scale, .int .i64 g.VX, .int .i64 g.VY]
/-- gestures that a call made itself -/
def OwnG (w : World) (B : Nat) (v : Value) (gs : List Ges) : Prop := w.ownsRow B 49 10 v gs.length (gs.flatMap gesL) ∧ (gs = [] → v = .slice none 0 0)
theorem OwnG.ext {w w' : World} {B : Nat} {v : Value} {gs : List Ges} (h : OwnG w B v gs) (he : Ext w w') : OwnG w' B v gs := ⟨ownsRow_ext h.1 he, h.2⟩
theorem OwnG.none (w : World) (B : Nat) : OwnG w B (.slice none 0 0) [] := ⟨World.ownsRow_nil _ _ _ _, fun _ => rfl⟩
theorem ownG_one {w : World} {B b : Nat} {g : Ges} (h : w.heap[b]? = some (.cells #[.int .i64 (g).Kind, .int .i64 (g).Node, .int .i64 (g).Phase, .int .i64 (g).X, .int .i64 (g).Y, .int .i64 (g).DX, .int .i64 (g).DY, .int .i64 (g).Scale, .int .i64 (g).VX, .int .i64 (g).VY] 49)) (hB : B ≤ b) : OwnG w B (.slice (some ⟨b, 0, none⟩) 1 1) [g] :=
  ⟨⟨rfl, .inr ⟨b, 1, _, rfl, hB, h, Nat.le_refl _, by decide, rfl, rfl⟩⟩, fun h => by cases h⟩
set_option maxHeartbeats 1000000 in
theorem abort_r (r : Rec) (h : ROk r) (a : Option Addr) (cap : Nat) (w : World) (hr : RepT w a r.Ts) :
    Calls Try.prog 47 #[.agg #[.int .i64 r.Kind, .int .i64 r.Node, .int .i64 r.State, .int .i64 r.Count, .slice a r.Ts.length cap, .int .i64 r.L.X, .int .i64 r.L.Y, .int .i64 r.L.T]] w fun e w' =>
      ∃ a' c' v, e = .returned (.tuple #[.agg (recC (abort r).1 a' c').toArray, v]) ∧ Ext w w' ∧ RepT w' a' (abort r).1.Ts ∧ OwnG w' w.heap.size v (abort r).2 := by
  by_cases hc : r.State = 3 ∧ r.Count = 1 ∧ cont r.Kind = true
  · have hw : abort r = (over r, [stageG r 5]) := by simp only [abort, if_pos hc]
    rw [hw]
    obtain ⟨h3, h1, hc⟩ := hc
    have hk : (r.State == 3) = true := by simpa using h3
    have hk1 : (r.Count == 1) = true := by simpa using h1
    have m5 : ∀ (a : Option Addr) (cap : Nat) (w : World), _ := fun a cap w => moves_r r h hc (h.sure hc (.inr ⟨h3, h1⟩)) 5 (by simp) a cap w
    obtain ⟨G, hG⟩ : ∃ G, G = stageG r 5 := ⟨_, rfl⟩
    rw [← hG] at m5 ⊢
    simp only [gesV] at m5
    replace m5 := Lib.hid m5
    clear h3 h1 hG hw
    go_enter Try.func47, Try.ntmps47
    go_wp2_with (go_at_call 34; refine (cont_any _ _).mono ?_; rintro e w' ⟨rfl, rfl⟩)
    have hrz : ∀ (z : Array Value) (d : Grow), RepT (((w.alloc (.cells #[.int .i64 r.Kind, .int .i64 r.Node, .int .i64 r.State, .int .i64 r.Count, .slice a r.Ts.length cap, .int .i64 r.L.X, .int .i64 r.L.Y, .int .i64 r.L.T] 26)).alloc (.cells z 26)).ext d) a r.Ts := fun z d => hr.ext (by (repeat (first | exact Ext.refl _ | assumption | refine Ext.alloc ?_ _ | refine Ext.ext ?_ _ | refine Ext.drew ?_)))
    replace hrz := Lib.hid hrz
    (refine wp_region_calm_z (fun z => ((w.alloc (.cells #[.int .i64 r.Kind, .int .i64 r.Node, .int .i64 r.State, .int .i64 r.Count, .slice a r.Ts.length cap, .int .i64 r.L.X, .int .i64 r.L.Y, .int .i64 r.L.T] 26)).alloc (.cells z 26))) 5 [0, 1, 2, 3] [4] [] [6] #[.int .i64 r.Kind, .int .i64 r.Node, .int .i64 4, .int .i64 r.Count, .slice none 0 0, .int .i64 r.L.X, .int .i64 r.L.Y, .int .i64 r.L.T] (by kernel_rfl) (by kernel_rfl) (by simp only [List.filterMap_cons, List.filterMap_nil, List.getElem?_toArray, List.getElem?_cons_succ, List.getElem?_cons_zero]; try exact rfl) (by simp only [List.filterMap_cons, List.filterMap_nil, List.getElem?_toArray, List.getElem?_cons_succ, List.getElem?_cons_zero]; try exact rfl) (by simp only [List.filterMap_cons, List.filterMap_nil, List.getElem?_toArray, List.getElem?_cons_succ, List.getElem?_cons_zero]; try exact rfl) (by intro z; simp) ?_; (repeat (first | (refine ql_plain rfl rfl ?_; intro K hK; go_big_quiet_op; go_big_quiet_on) | (refine ql_nilCheck rfl rfl rfl ?_; intro K hK; simp only [Act.put, List.setIfInBounds_toArray, List.set_cons_succ, List.set_cons_zero]; go_big_quiet_on) | (refine ql_callz (fun _ _ => over_any _ _ _ _ _ _ _ _ _ _ _) rfl rfl Try.func37 rfl (by kernel_rfl) rfl ?_; intro K hK; simp only [Act.put, List.setIfInBounds_toArray, List.set_cons_succ, List.set_cons_zero]; go_big_quiet_on) | (refine ql_callz (fun _ _ => (m5.out _ _ _ (hrz.out _ _))) rfl rfl Try.func39 rfl (by kernel_rfl) rfl ?_; intro K hK; simp only [Act.put, List.setIfInBounds_toArray, List.set_cons_succ, List.set_cons_zero]; go_big_quiet_on) | (refine ql_skip rfl ?_; intro K hK; simp only [Act.put, List.setIfInBounds_toArray, List.set_cons_succ, List.set_cons_zero]; go_big_quiet_on))); refine ql_nil ?_; refine ⟨?_, ?_⟩; (focus (refine wo1z (Wf := (fun z => ((w.alloc (.cells #[.int .i64 r.Kind, .int .i64 r.Node, .int .i64 r.State, .int .i64 r.Count, .slice a r.Ts.length cap, .int .i64 r.L.X, .int .i64 r.L.Y, .int .i64 r.L.T] 26)).alloc (.cells z 26)))) (z1 := #[.int .i64 r.Kind, .int .i64 r.Node, .int .i64 4, .int .i64 r.Count, .slice none 0 0, .int .i64 r.L.X, .int .i64 r.L.Y, .int .i64 r.L.T]) ?_ (by simp only [List.getElem?_toArray, List.getElem?_cons_succ, List.getElem?_cons_zero]; try exact rfl) ?_ ?_ ?_; intro z; simp; rfl; rfl; intro d; go_simp)))
    refine mw1 (mkz_sl (.cells #[.int .i64 (G).Kind, .int .i64 (G).Node, .int .i64 (G).Phase, .int .i64 (G).X, .int .i64 (G).Y, .int .i64 (G).DX, .int .i64 (G).DY, .int .i64 (G).Scale, .int .i64 (G).VX, .int .i64 (G).VY] 49) 1 (by intro z; simp) (by simp only [List.getElem?_toArray, List.getElem?_cons_succ, List.getElem?_cons_zero]; try exact rfl) rfl (fun z d => by go_simp)) ?_; intro u1 hu1 K hK; simp only [Act.put, List.setIfInBounds_toArray, List.set_cons_succ, List.set_cons_zero, List.getElem?_toArray, List.getElem?_cons_succ, List.getElem?_cons_zero, Option.bind_some]; refine hK _ ?_; clear hK K; (repeat (first | (refine pl_plain rfl rfl ?_; intro K hK; go_big_quiet_op; go_big_quiet_on) | (refine pl_nilCheck rfl rfl rfl ?_; intro K hK; simp only [Act.put, List.setIfInBounds_toArray, List.set_cons_succ, List.set_cons_zero]; go_big_quiet_on))); refine pl_nil ?_; rintro w1 he1 ⟨_, hf1⟩
    obtain ⟨g1, rfl, hg⟩ := hf1
    obtain ⟨d2, rfl⟩ := he1
    go_wp2; refine only_normal ?_
    go_wp2
    (refine bodyPost_ret (v := ?_) (by simp [results, Try.results47, go_sem]; rfl) rfl ?_)
    refine ⟨none, 0, _, rfl, ?_, .inl rfl, ownG_one hg ?_⟩
    · (repeat (first | exact Ext.refl _ | assumption | refine Ext.alloc ?_ _ | refine Ext.ext ?_ _ | refine Ext.drew ?_))
    · have := hu1 _ rfl; simp only [World.size_ext, World.size_alloc] at this; omega
  · have hw : abort r = (over r, []) := by simp only [abort, if_neg hc]
    rw [hw]
    by_cases h3 : r.State = 3
    · have hk : (r.State == 3) = true := by simpa using h3
      by_cases h1 : r.Count = 1
      · have hk1 : (r.Count == 1) = true := by simpa using h1
        have hk2 : cont r.Kind = false := by simpa [h3, h1] using hc
        clear hw h3 h1 hc
        go_enter Try.func47, Try.ntmps47
        go_wp2_with (first | (go_at_call 34; refine (cont_any _ _).mono ?_; rintro e w' ⟨rfl, rfl⟩) | (go_at_call 37; refine (over_any _ _ _ _ _ _ _ _ _ _ _).mono ?_; rintro e w' ⟨rfl, d, rfl⟩))
        (refine bodyPost_ret (v := ?_) (by simp [results, Try.results47, go_sem]; rfl) rfl ?_)
        refine ⟨none, 0, _, rfl, ?_, .inl rfl, OwnG.none _ _⟩
        (repeat (first | exact Ext.refl _ | assumption | refine Ext.alloc ?_ _ | refine Ext.ext ?_ _ | refine Ext.drew ?_))
      · have hk1 : (r.Count == 1) = false := by simpa using h1
        clear hw h3 h1 hc
        go_enter Try.func47, Try.ntmps47
        go_wp2_with (go_at_call 37; refine (over_any _ _ _ _ _ _ _ _ _ _ _).mono ?_; rintro e w' ⟨rfl, d, rfl⟩)
        (refine bodyPost_ret (v := ?_) (by simp [results, Try.results47, go_sem]; rfl) rfl ?_)
        refine ⟨none, 0, _, rfl, ?_, .inl rfl, OwnG.none _ _⟩
        (repeat (first | exact Ext.refl _ | assumption | refine Ext.alloc ?_ _ | refine Ext.ext ?_ _ | refine Ext.drew ?_))
    · have hk : (r.State == 3) = false := by simpa using h3
      clear hw h3 hc
      go_enter Try.func47, Try.ntmps47
      go_wp2_with (go_at_call 37; refine (over_any _ _ _ _ _ _ _ _ _ _ _).mono ?_; rintro e w' ⟨rfl, d, rfl⟩)
      (refine bodyPost_ret (v := ?_) (by simp [results, Try.results47, go_sem]; rfl) rfl ?_)
      refine ⟨none, 0, _, rfl, ?_, .inl rfl, OwnG.none _ _⟩
      (repeat (first | exact Ext.refl _ | assumption | refine Ext.alloc ?_ _ | refine Ext.ext ?_ _ | refine Ext.drew ?_))
end Go.Proofs.Ytendgmnbnnkpnaa.G
