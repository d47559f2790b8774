/- The reference: follow. Win of the program and of the reference, with the gestures' rows. -/
import Derived.Test.YtendgmnbnnkpnaaVA
import Derived.Test.YtendgmnbnnkpnaaUU
import Derived.Test.YtendgmnbnnkpnaaUO
import Derived.WalkKit
import Derived.WalkSpells
import Derived.WalkLawsBesides
import Derived.Deep.QuietTactic
import Derived.BigQuiet
import Derived.BigRegion
import Derived.Lib.Hide
import Derived.Deep.RegionWith
set_option linter.unusedSimpArgs false
set_option linter.unusedVariables false
namespace Go.Proofs.Ytendgmnbnnkpnaa.G
open Go.RowKit
theorem ownG_two {w : World} {B b : Nat} {g k : Ges} (h : w.heap[b]? = some (.cells (#[.int .i64 (g).Kind, .int .i64 (g).Node, .int .i64 (g).Phase, .int .i64 (g).X, .int .i64 (g).Y, .int .i64 (g).DX, .int .i64 (g).DY, .int .i64 (g).Scale, .int .i64 (g).VX, .int .i64 (g).VY] ++ #[.int .i64 (k).Kind, .int .i64 (k).Node, .int .i64 (k).Phase, .int .i64 (k).X, .int .i64 (k).Y, .int .i64 (k).DX, .int .i64 (k).DY, .int .i64 (k).Scale, .int .i64 (k).VX, .int .i64 (k).VY]) 49)) (hB : B ≤ b) : OwnG w B (.slice (some ⟨b, 0, none⟩) 2 2) [g, k] :=
  ⟨⟨rfl, .inr ⟨b, 2, _, rfl, hB, h, Nat.le_refl _, by decide, rfl, rfl⟩⟩, fun h => by cases h⟩
set_option maxRecDepth 100000 in
set_option maxHeartbeats 1000000 in
theorem r_follow_moving (r : Rec) (h : ROk r) (hc : cont r.Kind = true) (h3 : r.State = 3) (h1 : r.Count = 1) (e : Ev) (he : e.Kind = 2 ∨ e.Kind = 3) (a : Option Addr) (cap : Nat) (w : World) (hr : TsO w a cap r.Ts) :
    Calls Try.prog 79 #[.agg #[.int .i64 (r).Kind, .int .i64 (r).Node, .int .i64 (r).State, .int .i64 (r).Count, .slice a (r).Ts.length cap, .int .i64 (r).L.X, .int .i64 (r).L.Y, .int .i64 (r).L.T], .int .i64 e.Kind] w (RO (slide r e) w) := by
  have hl := h.sure hc (.inr ⟨h3, h1⟩)
  have b3 : (r.State == 3) = true := by simp [h3]
  have b1 : (r.Count == 1) = true := by simp [h1]
  have hrz : ∀ (z : Array Value) (d : Grow), TsO (((w.alloc (.cells #[.int .i64 r.Kind, .int .i64 r.Node, .int .i64 r.State, .int .i64 r.Count, .slice a r.Ts.length cap, .int .i64 r.L.X, .int .i64 r.L.Y, .int .i64 r.L.T] 26)).alloc (.cells z 26)).ext d) a cap r.Ts := fun z d => hr.ext (by (repeat (first | exact Ext.refl _ | assumption | refine Ext.alloc ?_ _ | refine Ext.ext ?_ _ | refine Ext.drew ?_)))
  replace hrz := Lib.hid hrz
  rcases he with he | he
  · have hw : slide r e = (r, 0, [stageG r 3]) := by simp [slide, he, h3, h1]
    rw [hw]
    have ho : ∀ (a : Option Addr) (cap : Nat) (w : World), _ := fun a cap w => r_stage r h hc hl 3 (by simp) a cap w
    obtain ⟨G, hG⟩ : ∃ G, G = stageG r 3 := ⟨_, rfl⟩
    rw [← hG] at ho ⊢
    simp only [gesV] at ho
    replace ho := Lib.hid ho
    have e3 : (e.Kind == 3) = false := by simp [he]
    clear hw he hG hl h hc h3 h1 hr
    go_enter Try.func79, Try.ntmps79
    go_wp2
    (refine wp_region_calm_z (fun z => ((w.alloc (.cells #[.int .i64 r.Kind, .int .i64 r.Node, .int .i64 r.State, .int .i64 r.Count, .slice a r.Ts.length cap, .int .i64 r.L.X, .int .i64 r.L.Y, .int .i64 r.L.T] 26)).alloc (.cells z 26))) 4 [0, 1, 2] [3] [5] [6] #[.int .i64 r.Kind, .int .i64 r.Node, .int .i64 r.State, .int .i64 r.Count, .slice a r.Ts.length cap, .int .i64 r.L.X, .int .i64 r.L.Y, .int .i64 r.L.T] (by kernel_rfl) (by kernel_rfl) (by simp only [List.filterMap_cons, List.filterMap_nil, List.getElem?_toArray, List.getElem?_cons_succ, List.getElem?_cons_zero]; try exact rfl) (by simp only [List.filterMap_cons, List.filterMap_nil, List.getElem?_toArray, List.getElem?_cons_succ, List.getElem?_cons_zero]; try exact rfl) (by simp only [List.filterMap_cons, List.filterMap_nil, List.getElem?_toArray, List.getElem?_cons_succ, List.getElem?_cons_zero]; try exact rfl) (by intro z; simp) ?_; (repeat (first | (refine ql_plain rfl rfl ?_; intro K hK; go_big_quiet_op; go_big_quiet_on) | (refine ql_nilCheck rfl rfl rfl ?_; intro K hK; simp only [Act.put, List.setIfInBounds_toArray, List.set_cons_succ, List.set_cons_zero]; go_big_quiet_on) | (refine ql_callz (fun _ _ => (ho.out _ _ _ (hrz.out _ _).rep)) rfl rfl Try.func70 rfl (by kernel_rfl) rfl ?_; intro K hK; simp only [Act.put, List.setIfInBounds_toArray, List.set_cons_succ, List.set_cons_zero]; go_big_quiet_on) | (refine ql_skip rfl ?_; intro K hK; simp only [Act.put, List.setIfInBounds_toArray, List.set_cons_succ, List.set_cons_zero]; go_big_quiet_on))); refine ql_nil ?_; refine ⟨?_, ?_⟩; (focus (refine wo1z (Wf := (fun z => ((w.alloc (.cells #[.int .i64 r.Kind, .int .i64 r.Node, .int .i64 r.State, .int .i64 r.Count, .slice a r.Ts.length cap, .int .i64 r.L.X, .int .i64 r.L.Y, .int .i64 r.L.T] 26)).alloc (.cells z 26)))) (z1 := #[.int .i64 r.Kind, .int .i64 r.Node, .int .i64 r.State, .int .i64 r.Count, .slice a r.Ts.length cap, .int .i64 r.L.X, .int .i64 r.L.Y, .int .i64 r.L.T]) ?_ (by simp only [List.getElem?_toArray, List.getElem?_cons_succ, List.getElem?_cons_zero]; try exact rfl) ?_ ?_ ?_; intro z; simp; rfl; rfl; intro d; go_simp)))
    refine mw1 (mkz_sl (.cells #[.int .i64 (G).Kind, .int .i64 (G).Node, .int .i64 (G).Phase, .int .i64 (G).X, .int .i64 (G).Y, .int .i64 (G).DX, .int .i64 (G).DY, .int .i64 (G).Scale, .int .i64 (G).VX, .int .i64 (G).VY] 49) 1 (by intro z; simp) (by simp only [List.getElem?_toArray, List.getElem?_cons_succ, List.getElem?_cons_zero]; try exact rfl) rfl (fun z d => by go_simp)) ?_; intro u1 hu1 K hK; simp only [Act.put, List.setIfInBounds_toArray, List.set_cons_succ, List.set_cons_zero, List.getElem?_toArray, List.getElem?_cons_succ, List.getElem?_cons_zero, Option.bind_some]; refine hK _ ?_; clear hK K; (repeat (first | (refine pl_plain rfl rfl ?_; intro K hK; go_big_quiet_op; go_big_quiet_on) | (refine pl_nilCheck rfl rfl rfl ?_; intro K hK; simp only [Act.put, List.setIfInBounds_toArray, List.set_cons_succ, List.set_cons_zero]; go_big_quiet_on))); refine pl_nil ?_; rintro w1 he1 ⟨_, hf1⟩
    obtain ⟨g1, rfl, hg⟩ := hf1
    obtain ⟨d2, rfl⟩ := he1
    replace hg := Lib.hid hg
    go_wp2; refine only_normal ?_
    go_wp2
    (refine bodyPost_ret (v := ?_) (by simp [results, Try.results79, go_sem]; rfl) rfl ?_)
    refine ⟨a, cap, _, _, _, rfl, ?_, hrz.out _ _, ownG_one hg.out ?_⟩
    · (repeat (first | exact Ext.refl _ | assumption | refine Ext.alloc ?_ _ | refine Ext.ext ?_ _ | refine Ext.drew ?_))
    · have := hu1 _ rfl; simp only [World.size_ext, World.size_alloc] at this; omega
  · have hw : slide r e = (over r, 0, [stageG r 4]) := by simp [slide, he, h3, h1]
    rw [hw]
    have ho : ∀ (a : Option Addr) (cap : Nat) (w : World), _ := fun a cap w => r_stage r h hc hl 4 (by simp) a cap w
    obtain ⟨G, hG⟩ : ∃ G, G = stageG r 4 := ⟨_, rfl⟩
    rw [← hG] at ho ⊢
    simp only [gesV] at ho
    replace ho := Lib.hid ho
    have e3 : (e.Kind == 3) = true := by simp [he]
    clear hw he hG hl h hc h3 h1 hr
    go_enter Try.func79, Try.ntmps79
    go_wp2
    (refine wp_region_calm_z (fun z => ((w.alloc (.cells #[.int .i64 r.Kind, .int .i64 r.Node, .int .i64 r.State, .int .i64 r.Count, .slice a r.Ts.length cap, .int .i64 r.L.X, .int .i64 r.L.Y, .int .i64 r.L.T] 26)).alloc (.cells z 26))) 5 [0, 1, 2, 3] [4] [6] [7] #[.int .i64 r.Kind, .int .i64 r.Node, .int .i64 4, .int .i64 r.Count, .slice none 0 0, .int .i64 r.L.X, .int .i64 r.L.Y, .int .i64 r.L.T] (by kernel_rfl) (by kernel_rfl) (by simp only [List.filterMap_cons, List.filterMap_nil, List.getElem?_toArray, List.getElem?_cons_succ, List.getElem?_cons_zero]; try exact rfl) (by simp only [List.filterMap_cons, List.filterMap_nil, List.getElem?_toArray, List.getElem?_cons_succ, List.getElem?_cons_zero]; try exact rfl) (by simp only [List.filterMap_cons, List.filterMap_nil, List.getElem?_toArray, List.getElem?_cons_succ, List.getElem?_cons_zero]; try exact rfl) (by intro z; simp) ?_; (repeat (first | (refine ql_plain rfl rfl ?_; intro K hK; go_big_quiet_op; go_big_quiet_on) | (refine ql_nilCheck rfl rfl rfl ?_; intro K hK; simp only [Act.put, List.setIfInBounds_toArray, List.set_cons_succ, List.set_cons_zero]; go_big_quiet_on) | (refine ql_callz (fun _ _ => r_over _ _ _ _ _ _ _ _ _ _ _) rfl rfl Try.func46 rfl (by kernel_rfl) rfl ?_; intro K hK; simp only [Act.put, List.setIfInBounds_toArray, List.set_cons_succ, List.set_cons_zero]; go_big_quiet_on) | (refine ql_callz (fun _ _ => (ho.out _ _ _ (hrz.out _ _).rep)) rfl rfl Try.func70 rfl (by kernel_rfl) rfl ?_; intro K hK; simp only [Act.put, List.setIfInBounds_toArray, List.set_cons_succ, List.set_cons_zero]; go_big_quiet_on) | (refine ql_skip rfl ?_; intro K hK; simp only [Act.put, List.setIfInBounds_toArray, List.set_cons_succ, List.set_cons_zero]; go_big_quiet_on))); refine ql_nil ?_; refine ⟨?_, ?_⟩; (focus (refine wo1z (Wf := (fun z => ((w.alloc (.cells #[.int .i64 r.Kind, .int .i64 r.Node, .int .i64 r.State, .int .i64 r.Count, .slice a r.Ts.length cap, .int .i64 r.L.X, .int .i64 r.L.Y, .int .i64 r.L.T] 26)).alloc (.cells z 26)))) (z1 := #[.int .i64 r.Kind, .int .i64 r.Node, .int .i64 4, .int .i64 r.Count, .slice none 0 0, .int .i64 r.L.X, .int .i64 r.L.Y, .int .i64 r.L.T]) ?_ (by simp only [List.getElem?_toArray, List.getElem?_cons_succ, List.getElem?_cons_zero]; try exact rfl) ?_ ?_ ?_; intro z; simp; rfl; rfl; intro d; go_simp)))
    refine mw1 (mkz_sl (.cells #[.int .i64 (G).Kind, .int .i64 (G).Node, .int .i64 (G).Phase, .int .i64 (G).X, .int .i64 (G).Y, .int .i64 (G).DX, .int .i64 (G).DY, .int .i64 (G).Scale, .int .i64 (G).VX, .int .i64 (G).VY] 49) 1 (by intro z; simp) (by simp only [List.getElem?_toArray, List.getElem?_cons_succ, List.getElem?_cons_zero]; try exact rfl) rfl (fun z d => by go_simp)) ?_; intro u1 hu1 K hK; simp only [Act.put, List.setIfInBounds_toArray, List.set_cons_succ, List.set_cons_zero, List.getElem?_toArray, List.getElem?_cons_succ, List.getElem?_cons_zero, Option.bind_some]; refine hK _ ?_; clear hK K; (repeat (first | (refine pl_plain rfl rfl ?_; intro K hK; go_big_quiet_op; go_big_quiet_on) | (refine pl_nilCheck rfl rfl rfl ?_; intro K hK; simp only [Act.put, List.setIfInBounds_toArray, List.set_cons_succ, List.set_cons_zero]; go_big_quiet_on))); refine pl_nil ?_; rintro w1 he1 ⟨_, hf1⟩
    obtain ⟨g1, rfl, hg⟩ := hf1
    obtain ⟨d2, rfl⟩ := he1
    replace hg := Lib.hid hg
    go_wp2; refine only_normal ?_
    go_wp2
    (refine bodyPost_ret (v := ?_) (by simp [results, Try.results79, go_sem]; rfl) rfl ?_)
    refine ⟨none, 0, _, _, _, rfl, ?_, .inl rfl, ownG_one hg.out ?_⟩
    · (repeat (first | exact Ext.refl _ | assumption | refine Ext.alloc ?_ _ | refine Ext.ext ?_ _ | refine Ext.drew ?_))
    · have := hu1 _ rfl; simp only [World.size_ext, World.size_alloc] at this; omega
set_option maxRecDepth 100000 in
set_option maxHeartbeats 1000000 in
theorem r_follow_still (r : Rec) (h : ROk r) (hc : cont r.Kind = true) (hne : r.Ts ≠ []) (h0 : r.State ≠ 0) (hm : ¬ (r.State = 3 ∧ r.Count = 1)) (e : Ev) (he : e.Kind = 2 ∨ e.Kind = 3) (a : Option Addr) (cap : Nat) (w : World) (hr : TsO w a cap r.Ts) :
    Calls Try.prog 79 #[.agg #[.int .i64 (r).Kind, .int .i64 (r).Node, .int .i64 (r).State, .int .i64 (r).Count, .slice a (r).Ts.length cap, .int .i64 (r).L.X, .int .i64 (r).L.Y, .int .i64 (r).L.T], .int .i64 e.Kind] w (RO (slide r e) w) := by
  have h4 : r.State ≠ 4 := fun h4 => hne (h.over h4)
  have hst := h.state
  have hrz : ∀ (w' : World), Ext w w' → TsO w' a cap r.Ts := fun w' he => hr.ext he
  replace hrz := Lib.hid hrz
  have hf := Lib.hid fun w => r_fail r a cap w
  have hce := Lib.hid fun w' (he : Ext w w') => r_certain r h hc hne a cap w' (hr.rep.ext he)
  have b31 : ((r.State == 3) && (r.Count == 1)) = false := by
    rw [Bool.and_eq_false_iff]; simp only [beq_eq_false_iff_ne]; by_cases h3 : r.State = 3
    · exact .inr fun h1 => hm ⟨h3, h1⟩
    · exact .inl h3
  have bx : ((r.State == 3) = false ∨ (r.State == 3) = true ∧ (r.Count == 1) = false) := by
    rcases e3 : (r.State == 3) with _ | _
    · exact .inl rfl
    · rw [e3] at b31; exact .inr ⟨rfl, by simpa using b31⟩
  clear b31
  rcases he with he | he
  · have e3 : (e.Kind == 3) = false := by simp [he]
    have hw : slide r e = (if r.State = 1 ∨ r.State = 3 then if (certain r).2 then fail r else if (certain r).1 then if r.State = 1 then ({ r with State := 2 }, 1, []) else ({ r with Count := 1 }, 0, [stageG r 2, stageG r 3]) else (r, 0, []) else (r, 0, [])) := by simp [slide, he, hm]
    rw [hw]
    clear hw he
    by_cases h2 : r.State = 2
    · have b2 : (r.State == 2) = true := by simp [h2]
      have b3 : (r.State == 3) = false := by simp [h2]
      rw [if_neg (by omega)]
      clear h2 bx hm hc hce h h0 h4 hst hne hr
      go_enter Try.func79, Try.ntmps79
      go_wp2
      (refine bodyPost_ret (v := ?_) (by simp [results, Try.results79, go_sem]; rfl) rfl ?_)
      refine ⟨a, cap, none, 0, 0, rfl, ?_, hrz.out _ ?_, OwnG.none _ _⟩ <;> (repeat (first | exact Ext.refl _ | assumption | refine Ext.alloc ?_ _ | refine Ext.ext ?_ _ | refine Ext.drew ?_))
    · have b2 : (r.State == 2) = false := by simp [h2]
      have h13 : r.State = 1 ∨ r.State = 3 := by omega
      rw [if_pos h13]
      rcases hc2 : (certain r).2 with _ | _
      · rcases hc1 : (certain r).1 with _ | _
        · simp only [hc1, hc2, Bool.false_eq_true, if_false] at hce ⊢
          clear h2 hm hc h h0 h4 hst hne hr hc1 hc2 h13
          rcases bx with b3 | ⟨b3, b3'⟩
          all_goals
            go_enter Try.func79, Try.ntmps79
            go_wp2_with fail; refine (hce.out _ ?_).mono ?_; (focus (repeat (first | exact Ext.refl _ | assumption | refine Ext.alloc ?_ _ | refine Ext.ext ?_ _ | refine Ext.drew ?_))); rintro _ _ ⟨rfl, d, rfl⟩
            go_wp2
            (refine bodyPost_ret (v := ?_) (by simp [results, Try.results79, go_sem]; rfl) rfl ?_)
            refine ⟨a, cap, none, 0, 0, rfl, ?_, hrz.out _ ?_, OwnG.none _ _⟩ <;> (repeat (first | exact Ext.refl _ | assumption | refine Ext.alloc ?_ _ | refine Ext.ext ?_ _ | refine Ext.drew ?_))
        · have hlen := certain_room h hc1
          simp only [hc1, hc2, Bool.false_eq_true, if_false, if_true] at hce ⊢
          by_cases h1 : r.State = 1
          · have b1 : (r.State == 1) = true := by simp [h1]
            have b3 : (r.State == 3) = false := by simp [h1]
            rw [if_pos h1]
            clear h2 hm hc h h0 h4 hst hne hr hc1 hc2 h13 h1 bx hlen
            go_enter Try.func79, Try.ntmps79
            go_wp2_with fail; refine (hce.out _ ?_).mono ?_; (focus (repeat (first | exact Ext.refl _ | assumption | refine Ext.alloc ?_ _ | refine Ext.ext ?_ _ | refine Ext.drew ?_))); rintro _ _ ⟨rfl, d, rfl⟩
            go_wp2
            (refine bodyPost_ret (v := ?_) (by simp [results, Try.results79, go_sem]; rfl) rfl ?_)
            refine ⟨a, cap, none, 0, 0, rfl, ?_, hrz.out _ ?_, OwnG.none _ _⟩ <;> (repeat (first | exact Ext.refl _ | assumption | refine Ext.alloc ?_ _ | refine Ext.ext ?_ _ | refine Ext.drew ?_))
          · have b1 : (r.State == 1) = false := by simp [h1]
            have h3 : r.State = 3 := by omega
            have b3 : (r.State == 3) = true := by simp [h3]
            rw [if_neg h1]
            have b3' : (r.Count == 1) = false := by simpa [b3] using bx
            have h' : ROk { r with Count := 1 } := ⟨h.kind, h.node, h.state, by simp, h.last, h.len, h.ts, h.over, fun _ _ => hlen⟩
            have m2 : ∀ (a : Option Addr) (cap : Nat) (w : World), _ := fun a cap w => r_stage { r with Count := 1 } h' hc hlen 2 (by simp) a cap w
            have m3 : ∀ (a : Option Addr) (cap : Nat) (w : World), _ := fun a cap w => r_stage { r with Count := 1 } h' hc hlen 3 (by simp) a cap w
            have e2 : stageG { r with Count := 1 } 2 = stageG r 2 := rfl
            have e3 : stageG { r with Count := 1 } 3 = stageG r 3 := rfl
            rw [e2] at m2
            rw [e3] at m3
            obtain ⟨G, hG⟩ : ∃ G, G = stageG r 2 := ⟨_, rfl⟩
            obtain ⟨K, hK⟩ : ∃ K, K = stageG r 3 := ⟨_, rfl⟩
            rw [← hG] at m2 ⊢
            rw [← hK] at m3 ⊢
            simp only [gesV] at m2 m3
            replace m2 := Lib.hid m2
            replace m3 := Lib.hid m3
            clear h2 hm hc h h0 h4 hst hne hr hc1 hc2 h13 h1 bx e2 e3 hG hK hlen h' h3
            go_enter Try.func79, Try.ntmps79
            go_wp2_with fail; refine (hce.out _ ?_).mono ?_; (focus (repeat (first | exact Ext.refl _ | assumption | refine Ext.alloc ?_ _ | refine Ext.ext ?_ _ | refine Ext.drew ?_))); rintro _ _ ⟨rfl, d, rfl⟩
            go_wp2
            have hrw : ∀ (z : Array Value) (d' : Grow), TsO ((((w.alloc (.cells #[.int .i64 r.Kind, .int .i64 r.Node, .int .i64 r.State, .int .i64 1, .slice a r.Ts.length cap, .int .i64 r.L.X, .int .i64 r.L.Y, .int .i64 r.L.T] 26)).alloc (.cells z 26)).ext d).ext d') a cap r.Ts := fun z d' => hrz.out _ (by (repeat (first | exact Ext.refl _ | assumption | refine Ext.alloc ?_ _ | refine Ext.ext ?_ _ | refine Ext.drew ?_)))
            replace hrw := Lib.hid hrw
            (refine wp_region_calm_z (fun z => ((w.alloc (.cells #[.int .i64 r.Kind, .int .i64 r.Node, .int .i64 r.State, .int .i64 1, .slice a r.Ts.length cap, .int .i64 r.L.X, .int .i64 r.L.Y, .int .i64 r.L.T] 26)).alloc (.cells z 26)).ext d) 6 [0, 1, 2, 3, 4] [5] [7] [8] #[.int .i64 r.Kind, .int .i64 r.Node, .int .i64 r.State, .int .i64 1, .slice a r.Ts.length cap, .int .i64 r.L.X, .int .i64 r.L.Y, .int .i64 r.L.T] (by kernel_rfl) (by kernel_rfl) (by simp only [List.filterMap_cons, List.filterMap_nil, List.getElem?_toArray, List.getElem?_cons_succ, List.getElem?_cons_zero]; try exact rfl) (by simp only [List.filterMap_cons, List.filterMap_nil, List.getElem?_toArray, List.getElem?_cons_succ, List.getElem?_cons_zero]; try exact rfl) (by simp only [List.filterMap_cons, List.filterMap_nil, List.getElem?_toArray, List.getElem?_cons_succ, List.getElem?_cons_zero]; try exact rfl) (by intro z; simp) ?_; (repeat (first | (refine ql_plain rfl rfl ?_; intro K hK; go_big_quiet_op; go_big_quiet_on) | (refine ql_nilCheck rfl rfl rfl ?_; intro K hK; simp only [Act.put, List.setIfInBounds_toArray, List.set_cons_succ, List.set_cons_zero]; go_big_quiet_on) | (refine ql_callz (fun _ _ => (m2.out _ _ _ (hrw.out _ _).rep)) rfl rfl Try.func70 rfl (by kernel_rfl) rfl ?_; intro K hK; simp only [Act.put, List.setIfInBounds_toArray, List.set_cons_succ, List.set_cons_zero]; go_big_quiet_on) | (refine ql_callz (fun _ _ => (m3.out _ _ _ (hrw.out _ _).rep)) rfl rfl Try.func70 rfl (by kernel_rfl) rfl ?_; intro K hK; simp only [Act.put, List.setIfInBounds_toArray, List.set_cons_succ, List.set_cons_zero]; go_big_quiet_on) | (refine ql_skip rfl ?_; intro K hK; simp only [Act.put, List.setIfInBounds_toArray, List.set_cons_succ, List.set_cons_zero]; go_big_quiet_on))); refine ql_nil ?_; refine ⟨?_, ?_⟩; (focus (refine wo1z (Wf := (fun z => ((w.alloc (.cells #[.int .i64 r.Kind, .int .i64 r.Node, .int .i64 r.State, .int .i64 1, .slice a r.Ts.length cap, .int .i64 r.L.X, .int .i64 r.L.Y, .int .i64 r.L.T] 26)).alloc (.cells z 26)).ext d)) (z1 := #[.int .i64 r.Kind, .int .i64 r.Node, .int .i64 r.State, .int .i64 1, .slice a r.Ts.length cap, .int .i64 r.L.X, .int .i64 r.L.Y, .int .i64 r.L.T]) ?_ (by simp only [List.getElem?_toArray, List.getElem?_cons_succ, List.getElem?_cons_zero]; try exact rfl) ?_ ?_ ?_; intro z; simp; rfl; rfl; intro d; go_simp)))
            refine mw1 (mkz_sl (.cells (#[.int .i64 (G).Kind, .int .i64 (G).Node, .int .i64 (G).Phase, .int .i64 (G).X, .int .i64 (G).Y, .int .i64 (G).DX, .int .i64 (G).DY, .int .i64 (G).Scale, .int .i64 (G).VX, .int .i64 (G).VY] ++ #[.int .i64 (K).Kind, .int .i64 (K).Node, .int .i64 (K).Phase, .int .i64 (K).X, .int .i64 (K).Y, .int .i64 (K).DX, .int .i64 (K).DY, .int .i64 (K).Scale, .int .i64 (K).VX, .int .i64 (K).VY]) 49) 2 (by intro z; simp) (by simp only [List.getElem?_toArray, List.getElem?_cons_succ, List.getElem?_cons_zero]; try exact rfl) rfl (fun z d => by go_simp)) ?_; intro u1 hu1 K hK; simp only [Act.put, List.setIfInBounds_toArray, List.set_cons_succ, List.set_cons_zero, List.getElem?_toArray, List.getElem?_cons_succ, List.getElem?_cons_zero, Option.bind_some]; refine hK _ ?_; clear hK K; (repeat (first | (refine pl_plain rfl rfl ?_; intro K hK; go_big_quiet_op; go_big_quiet_on) | (refine pl_nilCheck rfl rfl rfl ?_; intro K hK; simp only [Act.put, List.setIfInBounds_toArray, List.set_cons_succ, List.set_cons_zero]; go_big_quiet_on))); refine pl_nil ?_; rintro w1 he1 ⟨_, hf1⟩
            obtain ⟨g1, rfl, hg⟩ := hf1
            obtain ⟨d2, rfl⟩ := he1
            replace hg := Lib.hid hg
            go_wp2; refine only_normal ?_
            go_wp2
            (refine bodyPost_ret (v := ?_) (by simp [results, Try.results79, go_sem]; rfl) rfl ?_)
            refine ⟨a, cap, _, _, _, rfl, ?_, hrw.out _ _, ownG_two hg.out ?_⟩
            · (repeat (first | exact Ext.refl _ | assumption | refine Ext.alloc ?_ _ | refine Ext.ext ?_ _ | refine Ext.drew ?_))
            · have := hu1 _ rfl; simp only [World.size_ext, World.size_alloc] at this; omega
      · obtain ⟨c1, hc1⟩ : ∃ c1, (certain r).1 = c1 := ⟨_, rfl⟩
        simp only [hc1, hc2, if_true] at hce ⊢
        clear h2 hm hc h h0 h4 hst hne hr hc2 h13 hc1
        rcases bx with b3 | ⟨b3, b3'⟩
        all_goals
          go_enter Try.func79, Try.ntmps79
          go_wp2_with fail; refine (hce.out _ ?_).mono ?_; (focus (repeat (first | exact Ext.refl _ | assumption | refine Ext.alloc ?_ _ | refine Ext.ext ?_ _ | refine Ext.drew ?_))); rintro _ _ ⟨rfl, d, rfl⟩
          go_wp2_with fail; refine (hf.out _).mono ?_; rintro _ _ ⟨rfl, d2, rfl⟩
          go_wp2
          (refine bodyPost_ret (v := ?_) (by simp [results, Try.results79, go_sem]; rfl) rfl ?_)
          refine ⟨none, 0, none, 0, 0, rfl, ?_, .inl rfl, OwnG.none _ _⟩
          (repeat (first | exact Ext.refl _ | assumption | refine Ext.alloc ?_ _ | refine Ext.ext ?_ _ | refine Ext.drew ?_))
  · have e3 : (e.Kind == 3) = true := by simp [he]
    have hw : slide r e = fail r := by simp [slide, he, hm]
    rw [hw]
    clear hw he hm hc h h0 h4 hst hne hr hce
    rcases bx with b3 | ⟨b3, b3'⟩
    all_goals
      go_enter Try.func79, Try.ntmps79
      go_wp2_with fail; refine (hf.out _).mono ?_; rintro _ _ ⟨rfl, d, rfl⟩
      go_wp2
      (refine bodyPost_ret (v := ?_) (by simp [results, Try.results79, go_sem]; rfl) rfl ?_)
      refine ⟨none, 0, none, 0, 0, rfl, ?_, .inl rfl, OwnG.none _ _⟩
      (repeat (first | exact Ext.refl _ | assumption | refine Ext.alloc ?_ _ | refine Ext.ext ?_ _ | refine Ext.drew ?_))
theorem r_follow (r : Rec) (h : ROk r) (hc : cont r.Kind = true) (hne : r.Ts ≠ []) (h0 : r.State ≠ 0) (e : Ev) (he : e.Kind = 2 ∨ e.Kind = 3) (a : Option Addr) (cap : Nat) (w : World) (hr : TsO w a cap r.Ts) :
    Calls Try.prog 79 #[.agg #[.int .i64 (r).Kind, .int .i64 (r).Node, .int .i64 (r).State, .int .i64 (r).Count, .slice a (r).Ts.length cap, .int .i64 (r).L.X, .int .i64 (r).L.Y, .int .i64 (r).L.T], .int .i64 e.Kind] w (RO (slide r e) w) := by
  by_cases hm : r.State = 3 ∧ r.Count = 1
  · exact r_follow_moving r h hc hm.1 hm.2 e he a cap w hr
  · exact r_follow_still r h hc hne h0 hm e he a cap w hr
end Go.Proofs.Ytendgmnbnnkpnaa.G
namespace Go.Proofs.Ytendgmnbnnkpnaa.G
open Go.RowKit
set_option maxHeartbeats 1000000 in
theorem win_g (r : Rec) (h : ROk r) (a : Option Addr) (cap : Nat) (w : World) (hr : RepT w a r.Ts) :
    Calls Try.prog 22 #[.agg #[.int .i64 r.Kind, .int .i64 r.Node, .int .i64 r.State, .int .i64 r.Count, .slice a r.Ts.length cap, .int .i64 r.L.X, .int .i64 r.L.Y, .int .i64 r.L.T]] w fun e w' =>
      ∃ a' c' v, e = .returned (.tuple #[.agg (recC (win r).1 a' c').toArray, v]) ∧ Ext w w' ∧ TsO w' a' c' (win r).1.Ts ∧ OwnG w' 0 v (win r).2 := by
  have hcl := Lib.hid (clone_r r h a cap)
  have hts := Lib.hid h.ts
  by_cases h2 : r.State = 2
  · by_cases hc : cont r.Kind = true
    · have hw : win r = ({ r with State := 3, Count := 1 }, [stageG r 2, stageG r 3]) := by simp [win, h2, hc]
      rw [hw]
      have hk : (r.State == 2) = true := by simpa using h2
      have hl := h.sure hc (.inl h2)
      have h' : ROk { r with State := 3, Count := 1 } := ⟨h.kind, h.node, by simp, by simp, h.last, h.len, h.ts, by simp, fun _ _ => hl⟩
      have m2 : ∀ (a : Option Addr) (cap : Nat) (w : World), _ := fun a cap w => moves_r { r with State := 3, Count := 1 } h' hc hl 2 (by simp) a cap w
      have m3 : ∀ (a : Option Addr) (cap : Nat) (w : World), _ := fun a cap w => moves_r { r with State := 3, Count := 1 } h' hc hl 3 (by simp) a cap w
      have e2 : stageG { r with State := 3, Count := 1 } 2 = stageG r 2 := rfl
      have e3 : stageG { r with State := 3, Count := 1 } 3 = stageG r 3 := rfl
      rw [e2] at m2
      rw [e3] at m3
      obtain ⟨G, hG⟩ : ∃ G, G = stageG r 2 := ⟨_, rfl⟩
      obtain ⟨K, hK⟩ : ∃ K, K = stageG r 3 := ⟨_, rfl⟩
      rw [← hG] at m2 ⊢
      rw [← hK] at m3 ⊢
      simp only [gesV] at m2 m3
      replace m2 := Lib.hid m2
      replace m3 := Lib.hid m3
      replace h2 := Lib.hid h2
      clear e2 e3 hG hK hw h' hl
      go_enter Try.func22, Try.ntmps22
      go_wp2_with fail
      refine (hcl.out _ (hr.ext (by (repeat (first | exact Ext.refl _ | assumption | refine Ext.alloc ?_ _ | refine Ext.ext ?_ _ | refine Ext.drew ?_))))).mono ?_
      rintro e w1 ⟨a1, c1, rfl, ⟨d1, rfl⟩, hown⟩
      go_wp2_with (go_at_call 34; refine (cont_any _ _).mono ?_; rintro e w' ⟨rfl, rfl⟩)
      have hrz : ∀ (z : Array Value) (d : Grow), TsO ((((w.alloc (.cells #[.int .i64 r.Kind, .int .i64 r.Node, .int .i64 3, .int .i64 1, .slice a1 r.Ts.length c1, .int .i64 r.L.X, .int .i64 r.L.Y, .int .i64 r.L.T] 26)).alloc (.cells z 26)).ext d1).ext d) a1 c1 r.Ts := fun z d => .inr (((OwnT.weak hts.out (hown.like (S := fun k => k < w.heap.size + 2) (Y := ((w.alloc (.cells #[.int .i64 r.Kind, .int .i64 r.Node, .int .i64 3, .int .i64 1, .slice a1 r.Ts.length c1, .int .i64 r.L.X, .int .i64 r.L.Y, .int .i64 r.L.T] 26)).alloc (.cells z 26)).ext d1) (by (repeat (first | exact Like.refl _ _ | refine Like.ext ?_ _ | refine Like.alloc ?_ _ | refine Like.swap ?_ (by simp <;> omega) _ _))) (by simp))).base (Nat.zero_le _)).ext (Ext.ext (Ext.refl _) d))
      replace hrz := Lib.hid hrz
      clear hown hcl
      (refine wp_region_calm_z (fun z => ((w.alloc (.cells #[.int .i64 r.Kind, .int .i64 r.Node, .int .i64 3, .int .i64 1, .slice a1 r.Ts.length c1, .int .i64 r.L.X, .int .i64 r.L.Y, .int .i64 r.L.T] 26)).alloc (.cells z 26)).ext d1) 6 [0, 1, 2, 3, 4] [5] [] [7] #[.int .i64 r.Kind, .int .i64 r.Node, .int .i64 3, .int .i64 1, .slice a1 r.Ts.length c1, .int .i64 r.L.X, .int .i64 r.L.Y, .int .i64 r.L.T] (by kernel_rfl) (by kernel_rfl) (by simp only [List.filterMap_cons, List.filterMap_nil, List.getElem?_toArray, List.getElem?_cons_succ, List.getElem?_cons_zero]; try exact rfl) (by simp only [List.filterMap_cons, List.filterMap_nil, List.getElem?_toArray, List.getElem?_cons_succ, List.getElem?_cons_zero]; try exact rfl) (by simp only [List.filterMap_cons, List.filterMap_nil, List.getElem?_toArray, List.getElem?_cons_succ, List.getElem?_cons_zero]; try exact rfl) (by intro z; simp) ?_; (repeat (first | (refine ql_plain rfl rfl ?_; intro K hK; go_big_quiet_op; go_big_quiet_on) | (refine ql_nilCheck rfl rfl rfl ?_; intro K hK; simp only [Act.put, List.setIfInBounds_toArray, List.set_cons_succ, List.set_cons_zero]; go_big_quiet_on) | (refine ql_callz (fun _ _ => (m2.out _ _ _ (hrz.out _ _).rep)) rfl rfl Try.func39 rfl (by kernel_rfl) rfl ?_; intro K hK; simp only [Act.put, List.setIfInBounds_toArray, List.set_cons_succ, List.set_cons_zero]; go_big_quiet_on) | (refine ql_callz (fun _ _ => (m3.out _ _ _ (hrz.out _ _).rep)) rfl rfl Try.func39 rfl (by kernel_rfl) rfl ?_; intro K hK; simp only [Act.put, List.setIfInBounds_toArray, List.set_cons_succ, List.set_cons_zero]; go_big_quiet_on) | (refine ql_skip rfl ?_; intro K hK; simp only [Act.put, List.setIfInBounds_toArray, List.set_cons_succ, List.set_cons_zero]; go_big_quiet_on))); refine ql_nil ?_; refine ⟨?_, ?_⟩; (focus (refine wo1z (Wf := (fun z => ((w.alloc (.cells #[.int .i64 r.Kind, .int .i64 r.Node, .int .i64 3, .int .i64 1, .slice a1 r.Ts.length c1, .int .i64 r.L.X, .int .i64 r.L.Y, .int .i64 r.L.T] 26)).alloc (.cells z 26)).ext d1)) (z1 := #[.int .i64 r.Kind, .int .i64 r.Node, .int .i64 3, .int .i64 1, .slice a1 r.Ts.length c1, .int .i64 r.L.X, .int .i64 r.L.Y, .int .i64 r.L.T]) ?_ (by simp only [List.getElem?_toArray, List.getElem?_cons_succ, List.getElem?_cons_zero]; try exact rfl) ?_ ?_ ?_; intro z; simp; rfl; rfl; intro d; go_simp)))
      refine mw1 (mkz_sl (.cells (#[.int .i64 (G).Kind, .int .i64 (G).Node, .int .i64 (G).Phase, .int .i64 (G).X, .int .i64 (G).Y, .int .i64 (G).DX, .int .i64 (G).DY, .int .i64 (G).Scale, .int .i64 (G).VX, .int .i64 (G).VY] ++ #[.int .i64 (K).Kind, .int .i64 (K).Node, .int .i64 (K).Phase, .int .i64 (K).X, .int .i64 (K).Y, .int .i64 (K).DX, .int .i64 (K).DY, .int .i64 (K).Scale, .int .i64 (K).VX, .int .i64 (K).VY]) 49) 2 (by intro z; simp) (by simp only [List.getElem?_toArray, List.getElem?_cons_succ, List.getElem?_cons_zero]; try exact rfl) rfl (fun z d => by go_simp)) ?_; intro u1 hu1 K hK; simp only [Act.put, List.setIfInBounds_toArray, List.set_cons_succ, List.set_cons_zero, List.getElem?_toArray, List.getElem?_cons_succ, List.getElem?_cons_zero, Option.bind_some]; refine hK _ ?_; clear hK K; (repeat (first | (refine pl_plain rfl rfl ?_; intro K hK; go_big_quiet_op; go_big_quiet_on) | (refine pl_nilCheck rfl rfl rfl ?_; intro K hK; simp only [Act.put, List.setIfInBounds_toArray, List.set_cons_succ, List.set_cons_zero]; go_big_quiet_on))); refine pl_nil ?_; rintro w1 he1 ⟨_, hf1⟩
      obtain ⟨g1, rfl, hg⟩ := hf1
      obtain ⟨d2, rfl⟩ := he1
      go_wp2; refine only_normal ?_
      go_wp2
      (refine bodyPost_ret (v := ?_) (by simp [results, Try.results22, go_sem]; rfl) rfl ?_)
      refine ⟨a1, c1, _, rfl, ?_, hrz.out _ _, ownG_two hg (Nat.zero_le _)⟩
      (repeat (first | exact Ext.refl _ | assumption | refine Ext.alloc ?_ _ | refine Ext.ext ?_ _ | refine Ext.drew ?_))
    · have hw : win r = (over r, [onceG r]) := by simp [win, h2, hc]
      rw [hw]
      have hk : (r.State == 2) = true := by simpa using h2
      have hk2 : cont r.Kind = false := by simpa using hc
      replace h2 := Lib.hid h2
      obtain ⟨G, hG⟩ : ∃ G, G = onceG r := ⟨_, rfl⟩
      have ho := once_r r h
      rw [← hG] at ho ⊢
      simp only [gesV] at ho
      replace ho := Lib.hid ho
      clear hc hw
      go_enter Try.func22, Try.ntmps22
      go_wp2_with fail
      refine (hcl.out _ (hr.ext (by (repeat (first | exact Ext.refl _ | assumption | refine Ext.alloc ?_ _ | refine Ext.ext ?_ _ | refine Ext.drew ?_))))).mono ?_
      rintro e w1 ⟨a1, c1, rfl, ⟨d1, rfl⟩, hown⟩
      go_wp2_with (go_at_call 34; refine (cont_any _ _).mono ?_; rintro e w' ⟨rfl, rfl⟩)
      have hrep := hown.rep
      have hrz : ∀ (z : Array Value) (d : Grow), TsO ((((w.alloc (.cells #[.int .i64 r.Kind, .int .i64 r.Node, .int .i64 r.State, .int .i64 r.Count, .slice a1 r.Ts.length c1, .int .i64 r.L.X, .int .i64 r.L.Y, .int .i64 r.L.T] 26)).alloc (.cells z 26)).ext d1).ext d) a1 c1 r.Ts := fun z d => .inr (((OwnT.weak hts.out (hown.like (S := fun k => k < w.heap.size + 2) (Y := ((w.alloc (.cells #[.int .i64 r.Kind, .int .i64 r.Node, .int .i64 r.State, .int .i64 r.Count, .slice a1 r.Ts.length c1, .int .i64 r.L.X, .int .i64 r.L.Y, .int .i64 r.L.T] 26)).alloc (.cells z 26)).ext d1) (by (repeat (first | exact Like.refl _ _ | refine Like.ext ?_ _ | refine Like.alloc ?_ _ | refine Like.swap ?_ (by simp <;> omega) _ _))) (by simp))).base (Nat.zero_le _)).ext (Ext.ext (Ext.refl _) d))
      replace hrz := Lib.hid hrz
      clear hown hcl
      (refine wp_region_calm_z (fun z => ((w.alloc (.cells #[.int .i64 r.Kind, .int .i64 r.Node, .int .i64 r.State, .int .i64 r.Count, .slice a1 r.Ts.length c1, .int .i64 r.L.X, .int .i64 r.L.Y, .int .i64 r.L.T] 26)).alloc (.cells z 26)).ext d1) 5 [0, 1, 2, 3] [4] [] [6] #[.int .i64 r.Kind, .int .i64 r.Node, .int .i64 4, .int .i64 r.Count, .slice none 0 0, .int .i64 r.L.X, .int .i64 r.L.Y, .int .i64 r.L.T] (by kernel_rfl) (by kernel_rfl) (by simp only [List.filterMap_cons, List.filterMap_nil, List.getElem?_toArray, List.getElem?_cons_succ, List.getElem?_cons_zero]; try exact rfl) (by simp only [List.filterMap_cons, List.filterMap_nil, List.getElem?_toArray, List.getElem?_cons_succ, List.getElem?_cons_zero]; try exact rfl) (by simp only [List.filterMap_cons, List.filterMap_nil, List.getElem?_toArray, List.getElem?_cons_succ, List.getElem?_cons_zero]; try exact rfl) (by intro z; simp) ?_; (repeat (first | (refine ql_plain rfl rfl ?_; intro K hK; go_big_quiet_op; go_big_quiet_on) | (refine ql_nilCheck rfl rfl rfl ?_; intro K hK; simp only [Act.put, List.setIfInBounds_toArray, List.set_cons_succ, List.set_cons_zero]; go_big_quiet_on) | (refine ql_callz (fun _ _ => over_any _ _ _ _ _ _ _ _ _ _ _) rfl rfl Try.func37 rfl (by kernel_rfl) rfl ?_; intro K hK; simp only [Act.put, List.setIfInBounds_toArray, List.set_cons_succ, List.set_cons_zero]; go_big_quiet_on) | (refine ql_callz (fun _ _ => (ho.out _ _ _ (hrz.out _ _).rep)) rfl rfl Try.func38 rfl (by kernel_rfl) rfl ?_; intro K hK; simp only [Act.put, List.setIfInBounds_toArray, List.set_cons_succ, List.set_cons_zero]; go_big_quiet_on) | (refine ql_skip rfl ?_; intro K hK; simp only [Act.put, List.setIfInBounds_toArray, List.set_cons_succ, List.set_cons_zero]; go_big_quiet_on))); refine ql_nil ?_; refine ⟨?_, ?_⟩; (focus (refine wo1z (Wf := (fun z => ((w.alloc (.cells #[.int .i64 r.Kind, .int .i64 r.Node, .int .i64 r.State, .int .i64 r.Count, .slice a1 r.Ts.length c1, .int .i64 r.L.X, .int .i64 r.L.Y, .int .i64 r.L.T] 26)).alloc (.cells z 26)).ext d1)) (z1 := #[.int .i64 r.Kind, .int .i64 r.Node, .int .i64 4, .int .i64 r.Count, .slice none 0 0, .int .i64 r.L.X, .int .i64 r.L.Y, .int .i64 r.L.T]) ?_ (by simp only [List.getElem?_toArray, List.getElem?_cons_succ, List.getElem?_cons_zero]; try exact rfl) ?_ ?_ ?_; intro z; simp; rfl; rfl; intro d; go_simp)))
      refine mw1 (mkz_sl (.cells #[.int .i64 (G).Kind, .int .i64 (G).Node, .int .i64 (G).Phase, .int .i64 (G).X, .int .i64 (G).Y, .int .i64 (G).DX, .int .i64 (G).DY, .int .i64 (G).Scale, .int .i64 (G).VX, .int .i64 (G).VY] 49) 1 (by intro z; simp) (by simp only [List.getElem?_toArray, List.getElem?_cons_succ, List.getElem?_cons_zero]; try exact rfl) rfl (fun z d => by go_simp)) ?_; intro u1 hu1 K hK; simp only [Act.put, List.setIfInBounds_toArray, List.set_cons_succ, List.set_cons_zero, List.getElem?_toArray, List.getElem?_cons_succ, List.getElem?_cons_zero, Option.bind_some]; refine hK _ ?_; clear hK K; (repeat (first | (refine pl_plain rfl rfl ?_; intro K hK; go_big_quiet_op; go_big_quiet_on) | (refine pl_nilCheck rfl rfl rfl ?_; intro K hK; simp only [Act.put, List.setIfInBounds_toArray, List.set_cons_succ, List.set_cons_zero]; go_big_quiet_on))); refine pl_nil ?_; rintro w1 he1 ⟨_, hf1⟩
      obtain ⟨g1, rfl, hg⟩ := hf1
      obtain ⟨d2, rfl⟩ := he1
      go_wp2; refine only_normal ?_
      go_wp2
      (refine bodyPost_ret (v := ?_) (by simp [results, Try.results22, go_sem]; rfl) rfl ?_)
      refine ⟨none, 0, _, rfl, ?_, .inl rfl, ownG_one hg (Nat.zero_le _)⟩
      (repeat (first | exact Ext.refl _ | assumption | refine Ext.alloc ?_ _ | refine Ext.ext ?_ _ | refine Ext.drew ?_))
  · have hk : (r.State == 2) = false := by simpa using h2
    by_cases h01 : r.State = 0 ∨ r.State = 1
    · have hw : win r = ({ r with State := 3 }, []) := by simp [win, h2, h01]
      rw [hw]
      clear hw h2
      by_cases h0 : r.State = 0
      · have hk0 : (r.State == 0) = true := by simpa using h0
        clear h0 h01
        go_enter Try.func22, Try.ntmps22
        go_wp2_with fail
        refine (hcl.out _ (hr.ext (by (repeat (first | exact Ext.refl _ | assumption | refine Ext.alloc ?_ _ | refine Ext.ext ?_ _ | refine Ext.drew ?_))))).mono ?_
        rintro e w1 ⟨a1, c1, rfl, ⟨d1, rfl⟩, hown⟩
        have hrz : ∀ (st z : Array Value), TsO (((w.alloc (.cells st 26)).alloc (.cells z 26)).ext d1) a1 c1 r.Ts := fun st z => .inr ((OwnT.weak hts.out (hown.like (S := fun k => k < w.heap.size + 2) (by (repeat (first | exact Like.refl _ _ | refine Like.ext ?_ _ | refine Like.alloc ?_ _ | refine Like.swap ?_ (by simp <;> omega) _ _))) (by simp))).base (Nat.zero_le _))
        replace hrz := Lib.hid hrz
        clear hown
        go_wp2
        (refine bodyPost_ret (v := ?_) (by simp [results, Try.results22, go_sem]; rfl) rfl ?_)
        refine ⟨a1, c1, _, rfl, ?_, hrz.out _ _, OwnG.none _ _⟩
        (repeat (first | exact Ext.refl _ | assumption | refine Ext.alloc ?_ _ | refine Ext.ext ?_ _ | refine Ext.drew ?_))
      · have hk0 : (r.State == 0) = false := by simpa using h0
        have hk1 : (r.State == 1) = true := by simp; omega
        clear h0 h01
        go_enter Try.func22, Try.ntmps22
        go_wp2_with fail
        refine (hcl.out _ (hr.ext (by (repeat (first | exact Ext.refl _ | assumption | refine Ext.alloc ?_ _ | refine Ext.ext ?_ _ | refine Ext.drew ?_))))).mono ?_
        rintro e w1 ⟨a1, c1, rfl, ⟨d1, rfl⟩, hown⟩
        have hrz : ∀ (st z : Array Value), TsO (((w.alloc (.cells st 26)).alloc (.cells z 26)).ext d1) a1 c1 r.Ts := fun st z => .inr ((OwnT.weak hts.out (hown.like (S := fun k => k < w.heap.size + 2) (by (repeat (first | exact Like.refl _ _ | refine Like.ext ?_ _ | refine Like.alloc ?_ _ | refine Like.swap ?_ (by simp <;> omega) _ _))) (by simp))).base (Nat.zero_le _))
        replace hrz := Lib.hid hrz
        clear hown
        go_wp2
        (refine bodyPost_ret (v := ?_) (by simp [results, Try.results22, go_sem]; rfl) rfl ?_)
        refine ⟨a1, c1, _, rfl, ?_, hrz.out _ _, OwnG.none _ _⟩
        (repeat (first | exact Ext.refl _ | assumption | refine Ext.alloc ?_ _ | refine Ext.ext ?_ _ | refine Ext.drew ?_))
    · have hw : win r = (r, []) := by simp [win, h2, h01]
      rw [hw]
      have hk0 : (r.State == 0) = false := by simp; omega
      have hk1 : (r.State == 1) = false := by simp; omega
      clear hw h2 h01
      go_enter Try.func22, Try.ntmps22
      go_wp2_with fail
      refine (hcl.out _ (hr.ext (by (repeat (first | exact Ext.refl _ | assumption | refine Ext.alloc ?_ _ | refine Ext.ext ?_ _ | refine Ext.drew ?_))))).mono ?_
      rintro e w1 ⟨a1, c1, rfl, ⟨d1, rfl⟩, hown⟩
      have hrz : ∀ (st z : Array Value), TsO (((w.alloc (.cells st 26)).alloc (.cells z 26)).ext d1) a1 c1 r.Ts := fun st z => .inr ((OwnT.weak hts.out (hown.like (S := fun k => k < w.heap.size + 2) (by (repeat (first | exact Like.refl _ _ | refine Like.ext ?_ _ | refine Like.alloc ?_ _ | refine Like.swap ?_ (by simp <;> omega) _ _))) (by simp))).base (Nat.zero_le _))
      replace hrz := Lib.hid hrz
      clear hown
      go_wp2
      (refine bodyPost_ret (v := ?_) (by simp [results, Try.results22, go_sem]; rfl) rfl ?_)
      refine ⟨a1, c1, _, rfl, ?_, hrz.out _ _, OwnG.none _ _⟩
      (repeat (first | exact Ext.refl _ | assumption | refine Ext.alloc ?_ _ | refine Ext.ext ?_ _ | refine Ext.drew ?_))
set_option maxHeartbeats 1000000 in
theorem rwin_g (r : Rec) (h : ROk r) (a : Option Addr) (cap : Nat) (w : World) (hr : TsO w a cap r.Ts) :
    Calls Try.prog 44 #[.agg #[.int .i64 (r).Kind, .int .i64 (r).Node, .int .i64 (r).State, .int .i64 (r).Count, .slice a (r).Ts.length cap, .int .i64 (r).L.X, .int .i64 (r).L.Y, .int .i64 (r).L.T]] w fun e w' =>
      ∃ a' c' v, e = .returned (.tuple #[.agg (recC (win r).1 a' c').toArray, v]) ∧ Ext w w' ∧ TsO w' a' c' (win r).1.Ts ∧ OwnG w' 0 v (win r).2 := by
  by_cases h2 : r.State = 2
  · have hk : (r.State == 2) = true := by simpa using h2
    by_cases hc : cont r.Kind = true
    · have hw : win r = ({ r with State := 3, Count := 1 }, [stageG r 2, stageG r 3]) := by simp [win, h2, hc]
      rw [hw]
      have hl := h.sure hc (.inl h2)
      have h' : ROk { r with State := 3, Count := 1 } := ⟨h.kind, h.node, by simp, by simp, h.last, h.len, h.ts, by simp, fun _ _ => hl⟩
      have m2 : ∀ (a : Option Addr) (cap : Nat) (w : World), _ := fun a cap w => r_stage { r with State := 3, Count := 1 } h' hc hl 2 (by simp) a cap w
      have m3 : ∀ (a : Option Addr) (cap : Nat) (w : World), _ := fun a cap w => r_stage { r with State := 3, Count := 1 } h' hc hl 3 (by simp) a cap w
      have e2 : stageG { r with State := 3, Count := 1 } 2 = stageG r 2 := rfl
      have e3 : stageG { r with State := 3, Count := 1 } 3 = stageG r 3 := rfl
      rw [e2] at m2
      rw [e3] at m3
      obtain ⟨G, hG⟩ : ∃ G, G = stageG r 2 := ⟨_, rfl⟩
      obtain ⟨K, hK⟩ : ∃ K, K = stageG r 3 := ⟨_, rfl⟩
      rw [← hG] at m2 ⊢
      rw [← hK] at m3 ⊢
      simp only [gesV] at m2 m3
      replace m2 := Lib.hid m2
      replace m3 := Lib.hid m3
      replace h2 := Lib.hid h2
      clear e2 e3 hG hK hw h' hl
      have hrz : ∀ (z : Array Value) (d : Grow), TsO (((w.alloc (.cells #[.int .i64 r.Kind, .int .i64 r.Node, .int .i64 3, .int .i64 1, .slice a r.Ts.length cap, .int .i64 r.L.X, .int .i64 r.L.Y, .int .i64 r.L.T] 26)).alloc (.cells z 26)).ext d) a cap r.Ts := fun z d => hr.ext (by (repeat (first | exact Ext.refl _ | assumption | refine Ext.alloc ?_ _ | refine Ext.ext ?_ _ | refine Ext.drew ?_)))
      replace hrz := Lib.hid hrz
      replace hr := Lib.hid hr
      go_enter Try.func44, Try.ntmps44
      go_wp2_with (go_at_call 69; refine (r_dragging _ _).mono ?_; rintro e w' ⟨rfl, rfl⟩)
      (refine wp_region_calm_z (fun z => ((w.alloc (.cells #[.int .i64 r.Kind, .int .i64 r.Node, .int .i64 3, .int .i64 1, .slice a r.Ts.length cap, .int .i64 r.L.X, .int .i64 r.L.Y, .int .i64 r.L.T] 26)).alloc (.cells z 26))) 6 [0, 1, 2, 3, 4] [5] [] [7] #[.int .i64 r.Kind, .int .i64 r.Node, .int .i64 3, .int .i64 1, .slice a r.Ts.length cap, .int .i64 r.L.X, .int .i64 r.L.Y, .int .i64 r.L.T] (by kernel_rfl) (by kernel_rfl) (by simp only [List.filterMap_cons, List.filterMap_nil, List.getElem?_toArray, List.getElem?_cons_succ, List.getElem?_cons_zero]; try exact rfl) (by simp only [List.filterMap_cons, List.filterMap_nil, List.getElem?_toArray, List.getElem?_cons_succ, List.getElem?_cons_zero]; try exact rfl) (by simp only [List.filterMap_cons, List.filterMap_nil, List.getElem?_toArray, List.getElem?_cons_succ, List.getElem?_cons_zero]; try exact rfl) (by intro z; simp) ?_; (repeat (first | (refine ql_plain rfl rfl ?_; intro K hK; go_big_quiet_op; go_big_quiet_on) | (refine ql_nilCheck rfl rfl rfl ?_; intro K hK; simp only [Act.put, List.setIfInBounds_toArray, List.set_cons_succ, List.set_cons_zero]; go_big_quiet_on) | (refine ql_callz (fun _ _ => (m2.out _ _ _ (hrz.out _ _).rep)) rfl rfl Try.func70 rfl (by kernel_rfl) rfl ?_; intro K hK; simp only [Act.put, List.setIfInBounds_toArray, List.set_cons_succ, List.set_cons_zero]; go_big_quiet_on) | (refine ql_callz (fun _ _ => (m3.out _ _ _ (hrz.out _ _).rep)) rfl rfl Try.func70 rfl (by kernel_rfl) rfl ?_; intro K hK; simp only [Act.put, List.setIfInBounds_toArray, List.set_cons_succ, List.set_cons_zero]; go_big_quiet_on) | (refine ql_skip rfl ?_; intro K hK; simp only [Act.put, List.setIfInBounds_toArray, List.set_cons_succ, List.set_cons_zero]; go_big_quiet_on))); refine ql_nil ?_; refine ⟨?_, ?_⟩; (focus (refine wo1z (Wf := (fun z => ((w.alloc (.cells #[.int .i64 r.Kind, .int .i64 r.Node, .int .i64 3, .int .i64 1, .slice a r.Ts.length cap, .int .i64 r.L.X, .int .i64 r.L.Y, .int .i64 r.L.T] 26)).alloc (.cells z 26)))) (z1 := #[.int .i64 r.Kind, .int .i64 r.Node, .int .i64 3, .int .i64 1, .slice a r.Ts.length cap, .int .i64 r.L.X, .int .i64 r.L.Y, .int .i64 r.L.T]) ?_ (by simp only [List.getElem?_toArray, List.getElem?_cons_succ, List.getElem?_cons_zero]; try exact rfl) ?_ ?_ ?_; intro z; simp; rfl; rfl; intro d; go_simp)))
      refine mw1 (mkz_sl (.cells (#[.int .i64 (G).Kind, .int .i64 (G).Node, .int .i64 (G).Phase, .int .i64 (G).X, .int .i64 (G).Y, .int .i64 (G).DX, .int .i64 (G).DY, .int .i64 (G).Scale, .int .i64 (G).VX, .int .i64 (G).VY] ++ #[.int .i64 (K).Kind, .int .i64 (K).Node, .int .i64 (K).Phase, .int .i64 (K).X, .int .i64 (K).Y, .int .i64 (K).DX, .int .i64 (K).DY, .int .i64 (K).Scale, .int .i64 (K).VX, .int .i64 (K).VY]) 49) 2 (by intro z; simp) (by simp only [List.getElem?_toArray, List.getElem?_cons_succ, List.getElem?_cons_zero]; try exact rfl) rfl (fun z d => by go_simp)) ?_; intro u1 hu1 K hK; simp only [Act.put, List.setIfInBounds_toArray, List.set_cons_succ, List.set_cons_zero, List.getElem?_toArray, List.getElem?_cons_succ, List.getElem?_cons_zero, Option.bind_some]; refine hK _ ?_; clear hK K; (repeat (first | (refine pl_plain rfl rfl ?_; intro K hK; go_big_quiet_op; go_big_quiet_on) | (refine pl_nilCheck rfl rfl rfl ?_; intro K hK; simp only [Act.put, List.setIfInBounds_toArray, List.set_cons_succ, List.set_cons_zero]; go_big_quiet_on))); refine pl_nil ?_; rintro w1 he1 ⟨_, hf1⟩
      obtain ⟨g1, rfl, hg⟩ := hf1
      obtain ⟨d2, rfl⟩ := he1
      go_wp2; refine only_normal ?_
      go_wp2
      (refine bodyPost_ret (v := ?_) (by simp [results, Try.results44, go_sem]; rfl) rfl ?_)
      refine ⟨a, cap, _, rfl, ?_, hrz.out _ _, ownG_two hg (Nat.zero_le _)⟩
      (repeat (first | exact Ext.refl _ | assumption | refine Ext.alloc ?_ _ | refine Ext.ext ?_ _ | refine Ext.drew ?_))
    · have hw : win r = (over r, [onceG r]) := by simp [win, h2, hc]
      rw [hw]
      have hk2 : cont r.Kind = false := by simpa using hc
      obtain ⟨G, hG⟩ : ∃ G, G = onceG r := ⟨_, rfl⟩
      have ho := Lib.hid fun B w' (he : Ext w w') => once_mk h (B := B) (a := a) (cap := cap) (w := w') (hr.rep.ext he)
      rw [← hG] at ho ⊢
      replace h2 := Lib.hid h2
      clear hc hw hG h
      replace hr := Lib.hid hr
      go_enter Try.func44, Try.ntmps44
      go_wp2_with (go_at_call 69; refine (r_dragging _ _).mono ?_; rintro e w' ⟨rfl, rfl⟩)
      (refine wp_region_calm_ops [0, 1, 2] [3] [] [4, 5] (by kernel_rfl) (by kernel_rfl) (by simp only [List.filterMap_cons, List.filterMap_nil, List.getElem?_toArray, List.getElem?_cons_succ, List.getElem?_cons_zero]; try exact rfl) (by simp only [List.filterMap_cons, List.filterMap_nil, List.getElem?_toArray, List.getElem?_cons_succ, List.getElem?_cons_zero]; try exact rfl) (by simp only [List.filterMap_cons, List.filterMap_nil, List.getElem?_toArray, List.getElem?_cons_succ, List.getElem?_cons_zero]; try exact rfl) ?_; (repeat (first | (refine ql_plain rfl rfl ?_; intro K hK; go_big_quiet_op; go_big_quiet_on) | (refine ql_nilCheck rfl rfl rfl ?_; intro K hK; simp only [Act.put, List.setIfInBounds_toArray, List.set_cons_succ, List.set_cons_zero]; go_big_quiet_on) | (refine ql_call (fun _ => r_over _ _ _ _ _ _ _ _ _ _ _) rfl rfl Try.func46 rfl (by kernel_rfl) rfl ?_; intro K hK; simp only [Act.put, List.setIfInBounds_toArray, List.set_cons_succ, List.set_cons_zero]; go_big_quiet_on) | (refine ql_skip rfl ?_; intro K hK; simp only [Act.put, List.setIfInBounds_toArray, List.set_cons_succ, List.set_cons_zero]; go_big_quiet_on))); refine ql_nil ?_)
      refine mw1 (mk_call (f := 71) (stable_ownG (w.heap.size + 2) [G]) (fun _ => ho.out (w.heap.size + 2) _ (by (repeat (first | exact Ext.refl _ | assumption | refine Ext.alloc ?_ _ | refine Ext.ext ?_ _ | refine Ext.drew ?_))) (by simp <;> omega)) (by simp only [List.getElem?_toArray, List.getElem?_cons_succ, List.getElem?_cons_zero]; try exact rfl) rfl rfl Try.func71 rfl (by kernel_rfl) rfl) ?_; intro u1 hu1 K hK; simp only [Act.put, List.setIfInBounds_toArray, List.set_cons_succ, List.set_cons_zero, List.getElem?_toArray, List.getElem?_cons_succ, List.getElem?_cons_zero, Option.bind_some]; refine hK _ ?_; clear hK K; (repeat (first | (refine pl_plain rfl rfl ?_; intro K hK; go_big_quiet_op; go_big_quiet_on) | (refine pl_nilCheck rfl rfl rfl ?_; intro K hK; simp only [Act.put, List.setIfInBounds_toArray, List.set_cons_succ, List.set_cons_zero]; go_big_quiet_on))); refine pl_nil ?_; rintro w1 he1 ⟨_, hf1⟩
      obtain ⟨va, vn, vc, rfl⟩ := hf1.form
      obtain ⟨d2, rfl⟩ := he1
      replace hf1 := Lib.hid hf1
      go_wp2; refine only_normal ?_
      go_wp2
      (refine bodyPost_ret (v := ?_) (by simp [results, Try.results44, go_sem]; rfl) rfl ?_)
      refine ⟨none, 0, _, rfl, ?_, .inl rfl, hf1.out.turn (S := fun k => k < w.heap.size + 2) (Nat.zero_le _) (by (repeat (first | exact Like.refl _ _ | refine Like.ext ?_ _ | refine Like.alloc ?_ _ | refine Like.swap ?_ (by simp <;> omega) _ _))) (fun k hk => by omega)⟩
      (repeat (first | exact Ext.refl _ | assumption | refine Ext.alloc ?_ _ | refine Ext.ext ?_ _ | refine Ext.drew ?_))
  · have hk : (r.State == 2) = false := by simpa using h2
    by_cases h01 : r.State = 0 ∨ r.State = 1
    · have hw : win r = ({ r with State := 3 }, []) := by simp [win, h2, h01]
      rw [hw]
      clear hw h2 h
      replace hr := Lib.hid hr
      by_cases h0 : r.State = 0
      · have hk0 : (r.State == 0) = true := by simpa using h0
        clear h0 h01
        go_enter Try.func44, Try.ntmps44
        go_wp2
        (refine bodyPost_ret (v := ?_) (by simp [results, Try.results44, go_sem]; rfl) rfl ?_)
        refine ⟨a, cap, _, rfl, ?_, hr.out.ext ?_, OwnG.none _ _⟩ <;> (repeat (first | exact Ext.refl _ | assumption | refine Ext.alloc ?_ _ | refine Ext.ext ?_ _ | refine Ext.drew ?_))
      · have hk0 : (r.State == 0) = false := by simpa using h0
        have hk1 : (r.State == 1) = true := by simp; omega
        clear h0 h01
        go_enter Try.func44, Try.ntmps44
        go_wp2
        (refine bodyPost_ret (v := ?_) (by simp [results, Try.results44, go_sem]; rfl) rfl ?_)
        refine ⟨a, cap, _, rfl, ?_, hr.out.ext ?_, OwnG.none _ _⟩ <;> (repeat (first | exact Ext.refl _ | assumption | refine Ext.alloc ?_ _ | refine Ext.ext ?_ _ | refine Ext.drew ?_))
    · have hw : win r = (r, []) := by simp [win, h2, h01]
      rw [hw]
      have hk0 : (r.State == 0) = false := by simp; omega
      have hk1 : (r.State == 1) = false := by simp; omega
      clear hw h2 h01 h
      replace hr := Lib.hid hr
      go_enter Try.func44, Try.ntmps44
      go_wp2
      (refine bodyPost_ret (v := ?_) (by simp [results, Try.results44, go_sem]; rfl) rfl ?_)
      refine ⟨a, cap, _, rfl, ?_, hr.out.ext ?_, OwnG.none _ _⟩ <;> (repeat (first | exact Ext.refl _ | assumption | refine Ext.alloc ?_ _ | refine Ext.ext ?_ _ | refine Ext.drew ?_))
end Go.Proofs.Ytendgmnbnnkpnaa.G
