/- slide. slide, not moving yet. -/
import Derived.Test.YtendgmnbnnkpnaaUN
import Derived.WalkKit
import Derived.WalkSpells
import Derived.WalkLawsBesides
import Derived.Deep.QuietTactic
import Derived.BigQuiet
import Derived.BigRegion
import Derived.Lib.Hide
import Derived.Deep.RegionWith
set_option linter.unusedSimpArgs false
set_option linter.unusedVariables false
namespace Go.Proofs.Ytendgmnbnnkpnaa.G
open Go.RowKit
theorem judge_r (r : Rec) (h : ROk r) (hk : 4 ≤ r.Kind ∧ r.Kind ≤ 7) (hne : r.Ts ≠ []) (a : Option Addr) (cap : Nat) (w : World) (hr : RepT w a r.Ts) :
    Calls Try.prog 86 #[.agg #[.int .i64 r.Kind, .int .i64 r.Node, .int .i64 r.State, .int .i64 r.Count, .slice a r.Ts.length cap, .int .i64 r.L.X, .int .i64 r.L.Y, .int .i64 r.L.T]] w fun e w' =>
      e = .returned (.tuple #[.bool (certain r).1, .bool (certain r).2]) ∧ Ext w w' := by
  obtain ⟨k, n, s, c, ts, ⟨lx, ly, lt⟩⟩ := r
  simp only at *
  rcases h.shape with ht | ⟨t, ht, h1⟩ | ⟨t, u, ht, h1, h2, h7⟩
  · exact absurd ht hne
  · simp only at ht; subst ht
    rcases hr with hr | ⟨b, off, rfl, hr⟩
    · cases hr
    · obtain ⟨sb, so, sc, hm⟩ := hr.one
      exact judge_one k n s c lx ly lt b off cap t sb so sc w hk h1 hm
  · simp only at ht h7; subst ht; subst h7
    rcases hr with hr | ⟨b, off, rfl, hr⟩
    · cases hr
    · obtain ⟨sb, so, sc, ub, uo, uc, hm, hmu⟩ := hr.two
      exact judge_two n s c lx ly lt b off cap t u sb so sc ub uo uc w h1 h2 hm hmu
theorem certain_room {r : Rec} (h : ROk r) (hc : (certain r).1 = true) : r.Ts.length = room r.Kind := by
  rcases h.shape with ht | ⟨t, ht, h1⟩ | ⟨t, u, ht, h1, h2, h7⟩
  · simp [certain, ht] at hc
  · rw [ht]
    by_cases h7 : r.Kind = 7
    · simp [certain, ht, h7] at hc
    · simp [room, h7]
  · simp [ht, room, h7]
theorem own_nilG {w0 w : World} {g c : Nat} {G : Ges} (h : w.ownsRow w0.heap.size 49 10 (.slice (some ⟨g, 0, none⟩) 1 c) 1 (gesL G)) : OwnG w w0.heap.size (.slice (some ⟨g, 0, none⟩) 1 c) [G] := ⟨by simpa using h, fun h => by cases h⟩
set_option maxRecDepth 100000 in
set_option maxHeartbeats 2000000 in
theorem slide_moving (w0 w : World) (M : Nat) (r : Rec) (e : Ev) (i : Int) (hr : ROk r) (hk : 4 ≤ r.Kind ∧ r.Kind ≤ 7) (h3 : r.State = 3) (h1 : r.Count = 1) (h : Mach w0 w M r e 0 []) :
    Calls Try.prog 63 #[.pointer (some ⟨M, 0, none⟩), .int .i64 i, .bool (decide (e.Kind = 3))] w fun x w' => x = .returned (.tuple #[]) ∧ Mach w0 w' M (slide r e).1 e (slide r e).2.1 (slide r e).2.2 := by
  obtain ⟨D1, a, c, o, rfl, ⟨D2, rfl⟩, ht, hg⟩ := h
  obtain rfl := hg.2 rfl
  have hc : cont r.Kind = true := by simp [cont, btw]; omega
  have hlen := hr.sure hc (.inr ⟨h3, h1⟩)
  have hrz : ∀ (w' : World), Ext (((w0.ext D1).alloc (.cells #[.int .i64 (r).Kind, .int .i64 (r).Node, .int .i64 (r).State, .int .i64 (r).Count, .slice a (r).Ts.length c, .int .i64 (r).L.X, .int .i64 (r).L.Y, .int .i64 (r).L.T, .int .i64 (e).Kind, .int .i64 (e).ID, .int .i64 (e).X, .int .i64 (e).Y, .int .i64 (e).Time, .int .i64 (e).Wheel, .int .i64 0, .slice none 0 0] 82)).ext D2) w' → RepT w' a r.Ts := fun w' he => (ht.rep).ext he
  have ht2 := Lib.hid ht
  replace hrz := Lib.hid hrz
  replace hg := Lib.hid hg
  clear ht
  have b3 : (r.State == 3) = true := by simp [h3]
  have b1 : (r.Count == 1) = true := by simp [h1]
  by_cases he : e.Kind = 3
  · have hw : slide r e = (over r, 0, [stageG r 4]) := by simp [slide, he, h3, h1]
    rw [hw]
    have e3 : decide (e.Kind = 3) = true := by simp [he]
    rw [e3]
    have ho : ∀ (a : Option Addr) (cap : Nat) (w : World), _ := fun a cap w => moves_r r hr hc hlen 4 (by simp) a cap w
    obtain ⟨G, hG⟩ : ∃ G, G = stageG r 4 := ⟨_, rfl⟩
    rw [← hG] at ho ⊢
    simp only [gesV] at ho
    replace ho := Lib.hid ho
    clear hw he e3 hG hlen hr hk h3 h1 hc
    go_enter Try.func63, Try.ntmps63
    go_wp2
    (refine wp_region_calm_ops [1, 2, 3, 4, 5, 6, 7, 8, 9] [10] [0] [11, 12, 13, 14] (by kernel_rfl) (by kernel_rfl) (by simp only [List.filterMap_cons, List.filterMap_nil, List.getElem?_toArray, List.getElem?_cons_succ, List.getElem?_cons_zero]; try exact rfl) (by simp only [List.filterMap_cons, List.filterMap_nil, List.getElem?_toArray, List.getElem?_cons_succ, List.getElem?_cons_zero]; try exact rfl) (by simp only [List.filterMap_cons, List.filterMap_nil, List.getElem?_toArray, List.getElem?_cons_succ, List.getElem?_cons_zero]; try exact rfl) ?_; (repeat (first | (refine ql_plain rfl rfl ?_; intro K hK; go_big_quiet_op; go_big_quiet_on) | (refine ql_nilCheck rfl rfl rfl ?_; intro K hK; simp only [Act.put, List.setIfInBounds_toArray, List.set_cons_succ, List.set_cons_zero]; go_big_quiet_on) | (refine ql_call (fun _ => (ho.out _ _ _ (hrz.out _ (by (repeat (first | exact Ext.refl _ | assumption | refine Ext.alloc ?_ _ | refine Ext.ext ?_ _ | refine Ext.drew ?_)))))) rfl rfl Try.func39 rfl (by kernel_rfl) rfl ?_; intro K hK; simp only [Act.put, List.setIfInBounds_toArray, List.set_cons_succ, List.set_cons_zero]; go_big_quiet_on) | (refine ql_skip rfl ?_; intro K hK; simp only [Act.put, List.setIfInBounds_toArray, List.set_cons_succ, List.set_cons_zero]; go_big_quiet_on))); refine ql_nil ?_)
    refine mw1 (mk_sl (.cells #[.int .i64 (G).Kind, .int .i64 (G).Node, .int .i64 (G).Phase, .int .i64 (G).X, .int .i64 (G).Y, .int .i64 (G).DX, .int .i64 (G).DY, .int .i64 (G).Scale, .int .i64 (G).VX, .int .i64 (G).VY] 49) 1 (by simp only [List.getElem?_toArray, List.getElem?_cons_succ, List.getElem?_cons_zero]; try exact rfl) rfl (fun d => by go_simp)) ?_; intro u1 hu1 K hK; simp only [Act.put, List.setIfInBounds_toArray, List.set_cons_succ, List.set_cons_zero, List.getElem?_toArray, List.getElem?_cons_succ, List.getElem?_cons_zero, Option.bind_some]; refine hK _ ?_; clear hK K; (repeat (first | (refine pl_plain rfl rfl ?_; intro K hK; go_big_quiet_op; go_big_quiet_on) | (refine pl_nilCheck rfl rfl rfl ?_; intro K hK; simp only [Act.put, List.setIfInBounds_toArray, List.set_cons_succ, List.set_cons_zero]; go_big_quiet_on))); refine pl_nil ?_; rintro w1 he1 ⟨_, hf1⟩
    obtain ⟨g1, rfl, hf⟩ := hf1
    obtain ⟨d3, rfl⟩ := he1
    replace hf := Lib.hid hf
    have hat := Lib.hid (gesL_at hf.out)
    have h1 := Lib.hid (gesL_one G)
    refine wpList_append_nil _ _ _ 38 49 _ 10 80 infoG Try.underlying38 rfl (by decide) ⟨g1, 0, none⟩ 1 1 (gesL G) (by decide) rfl hat.out h1.out (by unfold maxLen; omega) (by omega) rfl rfl rfl rfl ?_
    intro g c1 w1 hown he
    obtain ⟨d4, rfl⟩ := he
    replace hown := Lib.hid hown
    go_wp2; refine only_normal ?_
    go_wp2_with (go_at_call 37; refine (over_any _ _ _ _ _ _ _ _ _ _ _).mono ?_; rintro e w' ⟨rfl, d, rfl⟩)
    (first | (refine bodyPost_end (results_none rfl _ _ _) rfl ?_) | (refine bodyPost_ret (results_none rfl _ _ _) rfl ?_))
    refine ⟨rfl, D1, none, 0, .slice (some ⟨g, 0, none⟩) 1 c1, rfl, ?_, World.ownsRow_nil _ _ _ _, own_nilG ?_⟩
    · (repeat (first | exact Ext.refl _ | assumption | refine Ext.alloc ?_ _ | refine Ext.ext ?_ _ | refine Ext.drew ?_))
    · refine ownsRow_like (S := fun k => k = w0.heap.size + D1.size) (ownsRow_base (B' := w0.heap.size) (ownsRow_ext hown.out (Ext.ext (Ext.refl _) d)) (by simp only [World.size_ext, World.size_alloc]; omega)) (by (repeat (first | exact Like.refl _ _ | refine Like.ext ?_ _ | refine Like.alloc ?_ _ | refine Like.swap ?_ (by simp <;> omega) _ _))) ?_
      intro b hb hs
      obtain rfl : g = b := by simpa [Value.ownBlock] using hb
      have := (own_ge hown.out).1
      simp at this
      omega
  · have hw : slide r e = (r, 0, [stageG r 3]) := by simp [slide, he, h3, h1]
    rw [hw]
    have e3 : decide (e.Kind = 3) = false := by simp [he]
    rw [e3]
    have ho : ∀ (a : Option Addr) (cap : Nat) (w : World), _ := fun a cap w => moves_r r hr hc hlen 3 (by simp) a cap w
    obtain ⟨G, hG⟩ : ∃ G, G = stageG r 3 := ⟨_, rfl⟩
    rw [← hG] at ho ⊢
    simp only [gesV] at ho
    replace ho := Lib.hid ho
    clear hw he e3 hG hlen hr hk h3 h1 hc
    go_enter Try.func63, Try.ntmps63
    go_wp2
    (refine wp_region_calm_ops [1, 2, 3, 4, 5, 6, 7, 8, 9] [10] [0] [11, 12, 13, 14] (by kernel_rfl) (by kernel_rfl) (by simp only [List.filterMap_cons, List.filterMap_nil, List.getElem?_toArray, List.getElem?_cons_succ, List.getElem?_cons_zero]; try exact rfl) (by simp only [List.filterMap_cons, List.filterMap_nil, List.getElem?_toArray, List.getElem?_cons_succ, List.getElem?_cons_zero]; try exact rfl) (by simp only [List.filterMap_cons, List.filterMap_nil, List.getElem?_toArray, List.getElem?_cons_succ, List.getElem?_cons_zero]; try exact rfl) ?_; (repeat (first | (refine ql_plain rfl rfl ?_; intro K hK; go_big_quiet_op; go_big_quiet_on) | (refine ql_nilCheck rfl rfl rfl ?_; intro K hK; simp only [Act.put, List.setIfInBounds_toArray, List.set_cons_succ, List.set_cons_zero]; go_big_quiet_on) | (refine ql_call (fun _ => (ho.out _ _ _ (hrz.out _ (by (repeat (first | exact Ext.refl _ | assumption | refine Ext.alloc ?_ _ | refine Ext.ext ?_ _ | refine Ext.drew ?_)))))) rfl rfl Try.func39 rfl (by kernel_rfl) rfl ?_; intro K hK; simp only [Act.put, List.setIfInBounds_toArray, List.set_cons_succ, List.set_cons_zero]; go_big_quiet_on) | (refine ql_skip rfl ?_; intro K hK; simp only [Act.put, List.setIfInBounds_toArray, List.set_cons_succ, List.set_cons_zero]; go_big_quiet_on))); refine ql_nil ?_)
    refine mw1 (mk_sl (.cells #[.int .i64 (G).Kind, .int .i64 (G).Node, .int .i64 (G).Phase, .int .i64 (G).X, .int .i64 (G).Y, .int .i64 (G).DX, .int .i64 (G).DY, .int .i64 (G).Scale, .int .i64 (G).VX, .int .i64 (G).VY] 49) 1 (by simp only [List.getElem?_toArray, List.getElem?_cons_succ, List.getElem?_cons_zero]; try exact rfl) rfl (fun d => by go_simp)) ?_; intro u1 hu1 K hK; simp only [Act.put, List.setIfInBounds_toArray, List.set_cons_succ, List.set_cons_zero, List.getElem?_toArray, List.getElem?_cons_succ, List.getElem?_cons_zero, Option.bind_some]; refine hK _ ?_; clear hK K; (repeat (first | (refine pl_plain rfl rfl ?_; intro K hK; go_big_quiet_op; go_big_quiet_on) | (refine pl_nilCheck rfl rfl rfl ?_; intro K hK; simp only [Act.put, List.setIfInBounds_toArray, List.set_cons_succ, List.set_cons_zero]; go_big_quiet_on))); refine pl_nil ?_; rintro w1 he1 ⟨_, hf1⟩
    obtain ⟨g1, rfl, hf⟩ := hf1
    obtain ⟨d3, rfl⟩ := he1
    replace hf := Lib.hid hf
    have hat := Lib.hid (gesL_at hf.out)
    have h1 := Lib.hid (gesL_one G)
    refine wpList_append_nil _ _ _ 38 49 _ 10 80 infoG Try.underlying38 rfl (by decide) ⟨g1, 0, none⟩ 1 1 (gesL G) (by decide) rfl hat.out h1.out (by unfold maxLen; omega) (by omega) rfl rfl rfl rfl ?_
    intro g c1 w1 hown he
    obtain ⟨d4, rfl⟩ := he
    replace hown := Lib.hid hown
    go_wp2; refine only_normal ?_
    go_wp2
    (first | (refine bodyPost_end (results_none rfl _ _ _) rfl ?_) | (refine bodyPost_ret (results_none rfl _ _ _) rfl ?_))
    refine ⟨rfl, D1, a, c, .slice (some ⟨g, 0, none⟩) 1 c1, rfl, ?_, (Mach.turnT ht2.out _).ext (by (repeat (first | exact Ext.refl _ | assumption | refine Ext.alloc ?_ _ | refine Ext.ext ?_ _ | refine Ext.drew ?_))), own_nilG ?_⟩
    · (repeat (first | exact Ext.refl _ | assumption | refine Ext.alloc ?_ _ | refine Ext.ext ?_ _ | refine Ext.drew ?_))
    · refine ownsRow_like (S := fun k => k = w0.heap.size + D1.size) (ownsRow_base (B' := w0.heap.size) hown.out (by simp only [World.size_ext, World.size_alloc]; omega)) (by (repeat (first | exact Like.refl _ _ | refine Like.ext ?_ _ | refine Like.alloc ?_ _ | refine Like.swap ?_ (by simp <;> omega) _ _))) ?_
      intro b hb hs
      obtain rfl : g = b := by simpa [Value.ownBlock] using hb
      have := (own_ge hown.out).1
      simp at this
      omega
end Go.Proofs.Ytendgmnbnnkpnaa.G
namespace Go.Proofs.Ytendgmnbnnkpnaa.G
open Go.RowKit
theorem own_nilG2 {w0 w : World} {g c : Nat} {G K : Ges} (h : w.ownsRow w0.heap.size 49 10 (.slice (some ⟨g, 0, none⟩) 2 c) 2 (gesL G ++ gesL K)) : OwnG w w0.heap.size (.slice (some ⟨g, 0, none⟩) 2 c) [G, K] := ⟨by simpa using h, fun h => by cases h⟩
set_option maxRecDepth 100000 in
set_option maxHeartbeats 2000000 in
theorem slide_up (w0 w : World) (M : Nat) (r : Rec) (e : Ev) (i : Int) (hm : ¬ (r.State = 3 ∧ r.Count = 1)) (he : e.Kind = 3) (h : Mach w0 w M r e 0 []) :
    Calls Try.prog 63 #[.pointer (some ⟨M, 0, none⟩), .int .i64 i, .bool (decide (e.Kind = 3))] w fun x w' => x = .returned (.tuple #[]) ∧ Mach w0 w' M (slide r e).1 e (slide r e).2.1 (slide r e).2.2 := by
  have hmm := Lib.hid h
  obtain ⟨a, c, o, hM, hc, _⟩ := h.read
  have c2 : w.cell? ⟨M, 2, none⟩ = some (.int .i64 r.State) := hc 2 _ rfl
  have c3 : w.cell? ⟨M, 3, none⟩ = some (.int .i64 r.Count) := hc 3 _ rfl
  have hw : slide r e = fail r := by simp only [slide, he, if_true, decide_eq_true_eq, if_neg hm]
  rw [hw]
  have e3 : decide (e.Kind = 3) = true := by simp [he]
  rw [e3]
  have b : (r.State == 3) = false ∨ (r.State == 3) = true ∧ (r.Count == 1) = false := by
    simp only [beq_iff_eq, beq_eq_false_iff_ne]; omega
  clear hw he e3 hm hc h
  rcases b with b3 | ⟨b3, b1⟩
  all_goals
    go_enter Try.func63, Try.ntmps63
    go_wp2_with fail
    refine (fail_m w0 _ M r e [] (hmm.out.ext (by (repeat (first | exact Ext.refl _ | assumption | refine Ext.alloc ?_ _ | refine Ext.ext ?_ _ | refine Ext.drew ?_))))).mono ?_
    rintro x w1 ⟨rfl, hm2⟩
    replace hm2 := Lib.hid hm2
    go_wp2
    (first | (refine bodyPost_end (results_none rfl _ _ _) rfl ?_) | (refine bodyPost_ret (results_none rfl _ _ _) rfl ?_))
    exact ⟨rfl, hm2.out⟩
set_option maxRecDepth 100000 in
set_option maxHeartbeats 2000000 in
theorem slide_idle (w0 w : World) (M : Nat) (r : Rec) (e : Ev) (i : Int) (hs : ¬ (r.State = 1 ∨ r.State = 3)) (he : ¬ e.Kind = 3) (h : Mach w0 w M r e 0 []) :
    Calls Try.prog 63 #[.pointer (some ⟨M, 0, none⟩), .int .i64 i, .bool (decide (e.Kind = 3))] w fun x w' => x = .returned (.tuple #[]) ∧ Mach w0 w' M (slide r e).1 e (slide r e).2.1 (slide r e).2.2 := by
  have hmm := Lib.hid h
  obtain ⟨a, c, o, hM, hc, _⟩ := h.read
  have c2 : w.cell? ⟨M, 2, none⟩ = some (.int .i64 r.State) := hc 2 _ rfl
  have c3 : w.cell? ⟨M, 3, none⟩ = some (.int .i64 r.Count) := hc 3 _ rfl
  have hm : ¬ (r.State = 3 ∧ r.Count = 1) := by omega
  have hw : slide r e = (r, 0, []) := by simp only [slide, if_neg he, decide_eq_true_eq, if_neg hm, if_neg hs]
  rw [hw]
  have e3 : decide (e.Kind = 3) = false := by simp [he]
  rw [e3]
  have b3 : (r.State == 3) = false := by simp; omega
  have b1 : (r.State == 1) = false := by simp; omega
  clear hw he e3 hm hc h hs
  go_enter Try.func63, Try.ntmps63
  go_wp2
  (first | (refine bodyPost_end (results_none rfl _ _ _) rfl ?_) | (refine bodyPost_ret (results_none rfl _ _ _) rfl ?_))
  refine ⟨rfl, hmm.out.ext ?_⟩
  (repeat (first | exact Ext.refl _ | assumption | refine Ext.alloc ?_ _ | refine Ext.ext ?_ _ | refine Ext.drew ?_))
set_option maxRecDepth 100000 in
set_option maxHeartbeats 2000000 in
theorem slide_judge (w0 w : World) (M : Nat) (r : Rec) (e : Ev) (i : Int) (hr : ROk r) (hk : 4 ≤ r.Kind ∧ r.Kind ≤ 7) (hne : r.Ts ≠ []) (hm : ¬ (r.State = 3 ∧ r.Count = 1)) (hs : r.State = 1 ∨ r.State = 3) (he : ¬ e.Kind = 3) (h : Mach w0 w M r e 0 []) :
    Calls Try.prog 63 #[.pointer (some ⟨M, 0, none⟩), .int .i64 i, .bool (decide (e.Kind = 3))] w fun x w' => x = .returned (.tuple #[]) ∧ Mach w0 w' M (slide r e).1 e (slide r e).2.1 (slide r e).2.2 := by
  have hmm := Lib.hid h
  obtain ⟨D1, a, c, o, rfl, ⟨D2, rfl⟩, ht, hg⟩ := h
  obtain rfl := hg.2 rfl
  have hc : cont r.Kind = true := by simp [cont, btw]; omega
  have hj := Lib.hid fun a cap w h => judge_r r hr hk hne a cap w h
  have hrz : ∀ (w' : World), Ext (((w0.ext D1).alloc (.cells #[.int .i64 (r).Kind, .int .i64 (r).Node, .int .i64 (r).State, .int .i64 (r).Count, .slice a (r).Ts.length c, .int .i64 (r).L.X, .int .i64 (r).L.Y, .int .i64 (r).L.T, .int .i64 (e).Kind, .int .i64 (e).ID, .int .i64 (e).X, .int .i64 (e).Y, .int .i64 (e).Time, .int .i64 (e).Wheel, .int .i64 0, .slice none 0 0] 82)).ext D2) w' → RepT w' a r.Ts := fun w' he => (ht.rep).ext he
  have hw0 : slide r e = (if (certain r).2 then fail r else if (certain r).1 then (if r.State = 1 then ({ r with State := 2 }, 1, []) else ({ r with Count := 1 }, 0, [stageG r 2, stageG r 3])) else (r, 0, [])) := by
    simp only [slide, if_neg he, decide_eq_true_eq, if_neg hm, if_pos hs]
  have hcr := fun hh => certain_room hr hh
  obtain ⟨v1, v1d⟩ : ∃ v, v = (certain r).1 := ⟨_, rfl⟩
  obtain ⟨v2, v2d⟩ : ∃ v, v = (certain r).2 := ⟨_, rfl⟩
  rw [← v1d, ← v2d] at hw0 hj
  rw [← v1d] at hcr
  rw [hw0]
  have e3 : decide (e.Kind = 3) = false := by simp [he]
  rw [e3]
  replace hrz := Lib.hid hrz
  replace ht := Lib.hid ht
  replace hg := Lib.hid hg
  clear hw0 v1d v2d e3 he
  cases v2 with
  | true =>
    simp only [if_true]
    have b : (r.State == 3) = false ∧ (r.State == 1) = true ∨ (r.State == 3) = true ∧ (r.State == 1) = false ∧ (r.Count == 1) = false := by
      simp only [beq_iff_eq, beq_eq_false_iff_ne]; omega
    clear hcr hne hk hs hm hc hr
    rcases b with ⟨b3, b1⟩ | ⟨b3, b2, b1⟩
    all_goals
      go_enter Try.func63, Try.ntmps63
      go_wp2_with fail
      refine (hj.out _ _ _ (hrz.out _ (by (repeat (first | exact Ext.refl _ | assumption | refine Ext.alloc ?_ _ | refine Ext.ext ?_ _ | refine Ext.drew ?_))))).mono ?_
      rintro x w1 ⟨rfl, dj, rfl⟩
      go_wp2_with fail
      refine (fail_m w0 _ _ r e [] (hmm.out.ext (by (repeat (first | exact Ext.refl _ | assumption | refine Ext.alloc ?_ _ | refine Ext.ext ?_ _ | refine Ext.drew ?_))))).mono ?_
      rintro x w1 ⟨rfl, hm2⟩
      replace hm2 := Lib.hid hm2
      go_wp2
      (first | (refine bodyPost_end (results_none rfl _ _ _) rfl ?_) | (refine bodyPost_ret (results_none rfl _ _ _) rfl ?_))
      exact ⟨rfl, hm2.out⟩
  | false =>
    simp only [Bool.false_eq_true, if_false]
    cases v1 with
    | false =>
      simp only [Bool.false_eq_true, if_false]
      have b : (r.State == 3) = false ∧ (r.State == 1) = true ∨ (r.State == 3) = true ∧ (r.State == 1) = false ∧ (r.Count == 1) = false := by
        simp only [beq_iff_eq, beq_eq_false_iff_ne]; omega
      clear hcr hne hk hs hm hc hr
      rcases b with ⟨b3, b1⟩ | ⟨b3, b2, b1⟩
      all_goals
        go_enter Try.func63, Try.ntmps63
        go_wp2_with fail
        refine (hj.out _ _ _ (hrz.out _ (by (repeat (first | exact Ext.refl _ | assumption | refine Ext.alloc ?_ _ | refine Ext.ext ?_ _ | refine Ext.drew ?_))))).mono ?_
        rintro x w1 ⟨rfl, dj, rfl⟩
        go_wp2
        (first | (refine bodyPost_end (results_none rfl _ _ _) rfl ?_) | (refine bodyPost_ret (results_none rfl _ _ _) rfl ?_))
        refine ⟨rfl, hmm.out.ext ?_⟩
        (repeat (first | exact Ext.refl _ | assumption | refine Ext.alloc ?_ _ | refine Ext.ext ?_ _ | refine Ext.drew ?_))
    | true =>
      simp only [if_true]
      by_cases h1 : r.State = 1
      · rw [if_pos h1]
        have b3 : (r.State == 3) = false := by simp [h1]
        have b1 : (r.State == 1) = true := by simp [h1]
        clear hcr hne hk hs hm hc hr h1
        go_enter Try.func63, Try.ntmps63
        go_wp2_with fail
        refine (hj.out _ _ _ (hrz.out _ (by (repeat (first | exact Ext.refl _ | assumption | refine Ext.alloc ?_ _ | refine Ext.ext ?_ _ | refine Ext.drew ?_))))).mono ?_
        rintro x w1 ⟨rfl, dj, rfl⟩
        go_wp2
        (first | (refine bodyPost_end (results_none rfl _ _ _) rfl ?_) | (refine bodyPost_ret (results_none rfl _ _ _) rfl ?_))
        refine ⟨rfl, D1, a, c, _, rfl, ?_, (Mach.turnT ht.out _).ext (by (repeat (first | exact Ext.refl _ | assumption | refine Ext.alloc ?_ _ | refine Ext.ext ?_ _ | refine Ext.drew ?_))), (Mach.turnG hg.out _).ext (by (repeat (first | exact Ext.refl _ | assumption | refine Ext.alloc ?_ _ | refine Ext.ext ?_ _ | refine Ext.drew ?_)))⟩
        (repeat (first | exact Ext.refl _ | assumption | refine Ext.alloc ?_ _ | refine Ext.ext ?_ _ | refine Ext.drew ?_))
      · rw [if_neg h1]
        have h3 : r.State = 3 := by omega
        have hlen := hcr rfl
        have b3 : (r.State == 3) = true := by simp [h3]
        have b2 : (r.State == 1) = false := by simp [h1]
        have b1 : (r.Count == 1) = false := by simp; omega
        have h' : ROk { r with Count := 1 } := ⟨hr.kind, hr.node, hr.state, by simp, hr.last, hr.len, hr.ts, hr.over, fun _ _ => hlen⟩
        have m2 : ∀ (a : Option Addr) (cap : Nat) (w : World), _ := fun a cap w => moves_r { r with Count := 1 } h' hc hlen 2 (by simp) a cap w
        have m3 : ∀ (a : Option Addr) (cap : Nat) (w : World), _ := fun a cap w => moves_r { r with Count := 1 } h' hc hlen 3 (by simp) a cap w
        have e2 : stageG { r with Count := 1 } 2 = stageG r 2 := rfl
        have e3 : stageG { r with Count := 1 } 3 = stageG r 3 := rfl
        rw [e2] at m2
        rw [e3] at m3
        obtain ⟨G, hG⟩ : ∃ G, G = stageG r 2 := ⟨_, rfl⟩
        obtain ⟨K, hK⟩ : ∃ K, K = stageG r 3 := ⟨_, rfl⟩
        rw [← hG] at m2 ⊢
        rw [← hK] at m3 ⊢
        simp only [gesV] at m2 m3
        replace m2 := Lib.hid m2
        replace m3 := Lib.hid m3
        have hrz2 : ∀ (w' : World), Ext (((w0.ext D1).alloc (.cells #[.int .i64 (({ r with Count := 1 } : Rec)).Kind, .int .i64 (({ r with Count := 1 } : Rec)).Node, .int .i64 (({ r with Count := 1 } : Rec)).State, .int .i64 (({ r with Count := 1 } : Rec)).Count, .slice a (({ r with Count := 1 } : Rec)).Ts.length c, .int .i64 (({ r with Count := 1 } : Rec)).L.X, .int .i64 (({ r with Count := 1 } : Rec)).L.Y, .int .i64 (({ r with Count := 1 } : Rec)).L.T, .int .i64 (e).Kind, .int .i64 (e).ID, .int .i64 (e).X, .int .i64 (e).Y, .int .i64 (e).Time, .int .i64 (e).Wheel, .int .i64 0, .slice none 0 0] 82)).ext D2) w' → RepT w' a r.Ts := fun w' he => ((Mach.turnT ht.out _).rep).ext he
        replace hrz2 := Lib.hid hrz2
        clear hcr hne hk hs hm hc hr h1 h3 h' e2 e3 hG hK hlen hmm
        go_enter Try.func63, Try.ntmps63
        go_wp2_with fail
        refine (hj.out _ _ _ (hrz.out _ (by (repeat (first | exact Ext.refl _ | assumption | refine Ext.alloc ?_ _ | refine Ext.ext ?_ _ | refine Ext.drew ?_))))).mono ?_
        rintro x w1 ⟨rfl, dj, rfl⟩
        go_wp2
        (refine wp_region_calm_ops [1, 2, 3, 4, 5, 6, 7, 8, 9, 10, 11, 12, 13, 14] [15] [0] [16, 17, 18, 19] (by kernel_rfl) (by kernel_rfl) (by simp only [List.filterMap_cons, List.filterMap_nil, List.getElem?_toArray, List.getElem?_cons_succ, List.getElem?_cons_zero]; try exact rfl) (by simp only [List.filterMap_cons, List.filterMap_nil, List.getElem?_toArray, List.getElem?_cons_succ, List.getElem?_cons_zero]; try exact rfl) (by simp only [List.filterMap_cons, List.filterMap_nil, List.getElem?_toArray, List.getElem?_cons_succ, List.getElem?_cons_zero]; try exact rfl) ?_; (repeat (first | (refine ql_plain rfl rfl ?_; intro K hK; go_big_quiet_op; go_big_quiet_on) | (refine ql_nilCheck rfl rfl rfl ?_; intro K hK; simp only [Act.put, List.setIfInBounds_toArray, List.set_cons_succ, List.set_cons_zero]; go_big_quiet_on) | (refine ql_call (fun _ => (m2.out _ _ _ (hrz2.out _ (by (repeat (first | exact Ext.refl _ | assumption | refine Ext.alloc ?_ _ | refine Ext.ext ?_ _ | refine Ext.drew ?_)))))) rfl rfl Try.func39 rfl (by kernel_rfl) rfl ?_; intro K hK; simp only [Act.put, List.setIfInBounds_toArray, List.set_cons_succ, List.set_cons_zero]; go_big_quiet_on) | (refine ql_call (fun _ => (m3.out _ _ _ (hrz2.out _ (by (repeat (first | exact Ext.refl _ | assumption | refine Ext.alloc ?_ _ | refine Ext.ext ?_ _ | refine Ext.drew ?_)))))) rfl rfl Try.func39 rfl (by kernel_rfl) rfl ?_; intro K hK; simp only [Act.put, List.setIfInBounds_toArray, List.set_cons_succ, List.set_cons_zero]; go_big_quiet_on) | (refine ql_skip rfl ?_; intro K hK; simp only [Act.put, List.setIfInBounds_toArray, List.set_cons_succ, List.set_cons_zero]; go_big_quiet_on))); refine ql_nil ?_)
        refine mw1 (mk_sl (.cells (#[.int .i64 (G).Kind, .int .i64 (G).Node, .int .i64 (G).Phase, .int .i64 (G).X, .int .i64 (G).Y, .int .i64 (G).DX, .int .i64 (G).DY, .int .i64 (G).Scale, .int .i64 (G).VX, .int .i64 (G).VY] ++ #[.int .i64 (K).Kind, .int .i64 (K).Node, .int .i64 (K).Phase, .int .i64 (K).X, .int .i64 (K).Y, .int .i64 (K).DX, .int .i64 (K).DY, .int .i64 (K).Scale, .int .i64 (K).VX, .int .i64 (K).VY]) 49) 2 (by simp only [List.getElem?_toArray, List.getElem?_cons_succ, List.getElem?_cons_zero]; try exact rfl) rfl (fun d => by go_simp)) ?_; intro u1 hu1 K hK; simp only [Act.put, List.setIfInBounds_toArray, List.set_cons_succ, List.set_cons_zero, List.getElem?_toArray, List.getElem?_cons_succ, List.getElem?_cons_zero, Option.bind_some]; refine hK _ ?_; clear hK K; (repeat (first | (refine pl_plain rfl rfl ?_; intro K hK; go_big_quiet_op; go_big_quiet_on) | (refine pl_nilCheck rfl rfl rfl ?_; intro K hK; simp only [Act.put, List.setIfInBounds_toArray, List.set_cons_succ, List.set_cons_zero]; go_big_quiet_on))); refine pl_nil ?_; rintro w1 he1 ⟨_, hf1⟩
        obtain ⟨g1, rfl, hf⟩ := hf1
        obtain ⟨d3, rfl⟩ := he1
        replace hf := Lib.hid hf
        have hat := Lib.hid (cells_at0 (l := gesL G ++ gesL K) hf.out rfl)
        have h1 : Hid (∀ u ∈ gesL G ++ gesL K, u.oneCell' = true) := fun u hu => by
          rcases List.mem_append.1 hu with hu | hu
          · exact gesL_one G u hu
          · exact gesL_one K u hu
        refine wpList_append_nil _ _ _ 38 49 _ 10 80 infoG Try.underlying38 rfl (by decide) ⟨g1, 0, none⟩ 2 2 (gesL G ++ gesL K) (by decide) rfl hat.out h1.out (by unfold maxLen; omega) (by omega) rfl rfl rfl rfl ?_
        intro g c1 w1 hown he
        obtain ⟨d4, rfl⟩ := he
        replace hown := Lib.hid hown
        go_wp2; refine only_normal ?_
        go_wp2
        (first | (refine bodyPost_end (results_none rfl _ _ _) rfl ?_) | (refine bodyPost_ret (results_none rfl _ _ _) rfl ?_))
        refine ⟨rfl, D1, a, c, .slice (some ⟨g, 0, none⟩) 2 c1, rfl, ?_, (Mach.turnT ht.out _).ext (by (repeat (first | exact Ext.refl _ | assumption | refine Ext.alloc ?_ _ | refine Ext.ext ?_ _ | refine Ext.drew ?_))), own_nilG2 ?_⟩
        · (repeat (first | exact Ext.refl _ | assumption | refine Ext.alloc ?_ _ | refine Ext.ext ?_ _ | refine Ext.drew ?_))
        · refine ownsRow_like (S := fun k => k = w0.heap.size + D1.size) (ownsRow_base (B' := w0.heap.size) hown.out (by simp only [World.size_ext, World.size_alloc]; omega)) (by (repeat (first | exact Like.refl _ _ | refine Like.ext ?_ _ | refine Like.alloc ?_ _ | refine Like.swap ?_ (by simp <;> omega) _ _))) ?_
          intro b hb hs
          obtain rfl : g = b := by simpa [Value.ownBlock] using hb
          have := (own_ge hown.out).1
          simp at this
          omega
theorem slide_m (w0 w : World) (M : Nat) (r : Rec) (e : Ev) (i : Int) (hr : ROk r) (hk : 4 ≤ r.Kind ∧ r.Kind ≤ 7) (hne : r.Ts ≠ []) (h : Mach w0 w M r e 0 []) :
    Calls Try.prog 63 #[.pointer (some ⟨M, 0, none⟩), .int .i64 i, .bool (decide (e.Kind = 3))] w fun x w' => x = .returned (.tuple #[]) ∧ Mach w0 w' M (slide r e).1 e (slide r e).2.1 (slide r e).2.2 := by
  by_cases hm : r.State = 3 ∧ r.Count = 1
  · exact slide_moving w0 w M r e i hr hk hm.1 hm.2 h
  · by_cases he : e.Kind = 3
    · exact slide_up w0 w M r e i hm he h
    · by_cases hs : r.State = 1 ∨ r.State = 3
      · exact slide_judge w0 w M r e i hr hk hne hm hs he h
      · exact slide_idle w0 w M r e i hs he h
end Go.Proofs.Ytendgmnbnnkpnaa.G
