/- The reference: stage, joined. The reference: succeed. Win, with the rows' types. The reference: Win, Abort. -/
import Derived.Test.YtendgmnbnnkpnaaUV
import Derived.Test.YtendgmnbnnkpnaaUW
import Derived.Test.YtendgmnbnnkpnaaUX
import Derived.Test.YtendgmnbnnkpnaaUY
import Derived.Test.YtendgmnbnnkpnaaUT
import Derived.Test.YtendgmnbnnkpnaaUP
import Derived.WalkKit
import Derived.WalkSpells
import Derived.WalkLawsBesides
import Derived.Deep.QuietTactic
import Derived.BigQuiet
import Derived.BigRegion
import Derived.Lib.Hide
import Derived.Deep.RegionWith
set_option linter.unusedSimpArgs false
set_option linter.unusedVariables false
namespace Go.Proofs.Ytendgmnbnnkpnaa.G
open Go.RowKit
theorem r_stage (r : Rec) (h : ROk r) (hc : cont r.Kind = true) (hl : r.Ts.length = room r.Kind) (p : Int) (hp : p = 2 ∨ p = 3 ∨ p = 4 ∨ p = 5) (a : Option Addr) (cap : Nat) (w : World) (hr : RepT w a r.Ts) :
    Calls Try.prog 70 #[.agg #[.int .i64 (r).Kind, .int .i64 (r).Node, .int .i64 (r).State, .int .i64 (r).Count, .slice a (r).Ts.length cap, .int .i64 (r).L.X, .int .i64 (r).L.Y, .int .i64 (r).L.T], .int .i64 p] w fun e w' => e = .returned (gesV (stageG r p)) ∧ Ext w w' := by
  have hk : r.Kind = 4 ∨ r.Kind = 5 ∨ r.Kind = 6 ∨ r.Kind = 7 := by simp [cont, btw] at hc; omega
  rcases h.shape with ht | ⟨t, ht, h1⟩ | ⟨t, u, ht, h1, h2, h7⟩
  · rw [ht] at hl; simp [room] at hl; split at hl <;> cases hl
  · rcases hk with hk | hk | hk | hk
    · exact r_stage_4 r t ht h1 hk p hp a cap w hr
    · exact r_stage_5 r t ht h1 hk p hp a cap w hr
    · exact r_stage_6 r t ht h1 hk p hp a cap w hr
    · rw [ht, hk] at hl; simp [room] at hl
  · exact r_stage_7 r t u ht h1 h2 h7 p hp a cap w hr
end Go.Proofs.Ytendgmnbnnkpnaa.G
namespace Go.Proofs.Ytendgmnbnnkpnaa.G
open Go.RowKit
/-- what a function of the reference hands back -/
def RO (q : Rec × Int × List Ges) (w : World) (e : Ending) (w' : World) : Prop := ∃ a c va vn vc, e = .returned (.tuple #[.agg #[.int .i64 (q.1).Kind, .int .i64 (q.1).Node, .int .i64 (q.1).State, .int .i64 (q.1).Count, .slice a (q.1).Ts.length c, .int .i64 (q.1).L.X, .int .i64 (q.1).L.Y, .int .i64 (q.1).L.T], .int .i64 q.2.1, .slice va vn vc]) ∧ Ext w w' ∧ TsO w' a c q.1.Ts ∧ OwnG w' w.heap.size (.slice va vn vc) q.2.2
theorem flat_get : ∀ (gs : List Ges) (i : Nat) (g : Ges) (j : Nat), gs[i]? = some g → j < 10 → (gs.flatMap gesL)[i * 10 + j]? = (gesL g)[j]?
  | [], i, g, j, h, _ => by simp at h
  | g0 :: gs, 0, g, j, h, hj => by
    obtain rfl : g0 = g := by simpa using h
    rw [List.flatMap_cons, List.getElem?_append_left (by simp [gesL]; omega)]; simp
  | g0 :: gs, i + 1, g, j, h, hj => by
    rw [List.flatMap_cons, List.getElem?_append_right (by simp [gesL]; omega)]
    have := flat_get gs i g j (by simpa using h) hj
    rw [← this]; congr 1; simp [gesL]; omega
theorem OwnG.rep {w : World} {B : Nat} {v : Value} {gs : List Ges} (h : OwnG w B v gs) : RepG w v gs := by
  rcases gs with _ | ⟨g0, l⟩
  · exact .inl ⟨rfl, Option.none, 0, h.2 rfl⟩
  · obtain ⟨g, c, rfl⟩ := ownsRow_pos h.1 (by simp)
    refine .inr ⟨g, 0, c, rfl, fun i x hi j v hv => ?_⟩
    have hl := (List.getElem?_eq_some_iff.1 hi).1
    replace hv : (gesL x)[j]? = some v := by
      have h1 : (gesL x).toArray[j]? = some v := hv
      simpa using h1
    have hj : j < 10 := by
      by_cases hj : j < 10
      · exact hj
      · rw [List.getElem?_eq_none (by simp [gesL]; omega)] at hv; cases hv
    have h1 := h.1.cellAt (i * 10 + j) (by omega)
    rw [show 0 + i * 10 + j = 0 + (i * 10 + j) by omega, Nat.zero_add, h1, flat_get _ _ _ _ hi hj]; exact hv
theorem OwnG.turn {X Y : World} {B : Nat} {v : Value} {gs : List Ges} (h : OwnG X B v gs) {S : Nat → Prop} {B' : Nat} (hB : B' ≤ B) (hl : Like S X Y) (hS : ∀ k, B ≤ k → ¬ S k) : OwnG Y B' v gs :=
  ⟨ownsRow_base (ownsRow_like h.1 hl (fun b hb hs => hS b (h.1.lt b hb).1 hs)) hB, h.2⟩
theorem stable_ownG (B : Nat) (gs : List Ges) : Stable (fun u w => OwnG w B u gs) := fun _ _ _ h he => h.ext he
theorem once_mk {r : Rec} (h : ROk r) {B : Nat} {a : Option Addr} {cap : Nat} {w : World} (hr : RepT w a r.Ts) (hB : B ≤ w.heap.size) :
    Calls Try.prog 71 #[.agg #[.int .i64 (r).Kind, .int .i64 (r).Node, .int .i64 (r).State, .int .i64 (r).Count, .slice a (r).Ts.length cap, .int .i64 (r).L.X, .int .i64 (r).L.Y, .int .i64 (r).L.T]] w fun e w' => ∃ u, e = .returned u ∧ Ext w w' ∧ OwnG w' B u [onceG r] ∧ ∀ b, u.blk = some b → w.heap.size ≤ b ∧ b < w'.heap.size := by
  refine (r_once r h a cap w hr).mono ?_
  rintro e w' ⟨v, rfl, he, ho⟩
  obtain ⟨g, c, rfl⟩ := ownsRow_pos ho.1 (by simp)
  refine ⟨_, rfl, he, ⟨ownsRow_base ho.1 hB, ho.2⟩, fun b hb => ?_⟩
  obtain rfl : g = b := by simpa [Value.blk] using hb
  exact own_ge ho.1
set_option maxHeartbeats 1000000 in
theorem r_succeed (r : Rec) (h : ROk r) (p : Smp) (hp : placed p = true) (ask : Int) (a : Option Addr) (cap : Nat) (w : World) (hr : TsO w a cap r.Ts) :
    Calls Try.prog 76 #[.agg #[.int .i64 (r).Kind, .int .i64 (r).Node, .int .i64 (r).State, .int .i64 (r).Count, .slice a (r).Ts.length cap, .int .i64 (r).L.X, .int .i64 (r).L.Y, .int .i64 (r).L.T], .agg #[.int .i64 p.X, .int .i64 p.Y, .int .i64 p.T], .int .i64 ask] w (RO (succeed r p ask) w) := by
  by_cases h3 : r.State = 3
  · have hw : succeed r p ask = (over { r with L := p }, 0, [onceG { r with L := p }]) := by simp [succeed, h3]
    rw [hw]
    have b3 : (r.State == 3) = true := by simp [h3]
    have h' : ROk { r with L := p } := ⟨h.kind, h.node, h.state, h.count, hp, h.len, h.ts, h.over, h.sure⟩
    have ho := Lib.hid fun B w' (he : Ext w w') => once_mk h' (B := B) (a := a) (cap := cap) (w := w') (hr.rep.ext he)
    simp only at ho
    obtain ⟨G, hG⟩ : ∃ G, G = onceG { r with L := p } := ⟨_, rfl⟩
    rw [← hG] at ho ⊢
    clear hw hG h' h hp h3
    replace hr := Lib.hid hr
    go_enter Try.func76, Try.ntmps76
    go_wp2
    (refine wp_region_calm_ops [0, 1, 2] [3] [] [4, 5, 6] (by kernel_rfl) (by kernel_rfl) (by simp only [List.filterMap_cons, List.filterMap_nil, List.getElem?_toArray, List.getElem?_cons_succ, List.getElem?_cons_zero]; try exact rfl) (by simp only [List.filterMap_cons, List.filterMap_nil, List.getElem?_toArray, List.getElem?_cons_succ, List.getElem?_cons_zero]; try exact rfl) (by simp only [List.filterMap_cons, List.filterMap_nil, List.getElem?_toArray, List.getElem?_cons_succ, List.getElem?_cons_zero]; try exact rfl) ?_; (repeat (first | (refine ql_plain rfl rfl ?_; intro K hK; go_big_quiet_op; go_big_quiet_on) | (refine ql_nilCheck rfl rfl rfl ?_; intro K hK; simp only [Act.put, List.setIfInBounds_toArray, List.set_cons_succ, List.set_cons_zero]; go_big_quiet_on) | (refine ql_call (fun _ => r_over _ _ _ _ _ _ _ _ _ _ _) rfl rfl Try.func46 rfl (by kernel_rfl) rfl ?_; intro K hK; simp only [Act.put, List.setIfInBounds_toArray, List.set_cons_succ, List.set_cons_zero]; go_big_quiet_on) | (refine ql_skip rfl ?_; intro K hK; simp only [Act.put, List.setIfInBounds_toArray, List.set_cons_succ, List.set_cons_zero]; go_big_quiet_on))); refine ql_nil ?_)
    refine mw1 (mk_call (f := 71) (stable_ownG (w.heap.size + 3) [G]) (fun _ => ho.out (w.heap.size + 3) _ (by (repeat (first | exact Ext.refl _ | assumption | refine Ext.alloc ?_ _ | refine Ext.ext ?_ _ | refine Ext.drew ?_))) (by simp <;> omega)) (by simp only [List.getElem?_toArray, List.getElem?_cons_succ, List.getElem?_cons_zero]; try exact rfl) rfl rfl Try.func71 rfl (by kernel_rfl) rfl) ?_; intro u1 hu1 K hK; simp only [Act.put, List.setIfInBounds_toArray, List.set_cons_succ, List.set_cons_zero, List.getElem?_toArray, List.getElem?_cons_succ, List.getElem?_cons_zero, Option.bind_some]; refine hK _ ?_; clear hK K; (repeat (first | (refine pl_plain rfl rfl ?_; intro K hK; go_big_quiet_op; go_big_quiet_on) | (refine pl_nilCheck rfl rfl rfl ?_; intro K hK; simp only [Act.put, List.setIfInBounds_toArray, List.set_cons_succ, List.set_cons_zero]; go_big_quiet_on))); refine pl_nil ?_; rintro w1 he1 ⟨_, hf1⟩
    obtain ⟨va, vn, vc, rfl⟩ := hf1.form
    obtain ⟨d2, rfl⟩ := he1
    replace hf1 := Lib.hid hf1
    go_wp2; refine only_normal ?_
    go_wp2
    (refine bodyPost_ret (v := ?_) (by simp [results, Try.results76, go_sem]; rfl) rfl ?_)
    refine ⟨none, 0, va, vn, vc, rfl, ?_, .inl rfl, ?_⟩
    · (repeat (first | exact Ext.refl _ | assumption | refine Ext.alloc ?_ _ | refine Ext.ext ?_ _ | refine Ext.drew ?_))
    · exact hf1.out.turn (S := fun k => k < w.heap.size + 3) (by omega) (by (repeat (first | exact Like.refl _ _ | refine Like.ext ?_ _ | refine Like.alloc ?_ _ | refine Like.swap ?_ (by simp <;> omega) _ _))) (fun k hk => by omega)
  · have hw : succeed r p ask = ({ r with L := p, State := 2 }, ask, []) := by simp [succeed, h3]
    rw [hw]
    have b3 : (r.State == 3) = false := by simp [h3]
    clear hw h hp h3
    replace hr := Lib.hid hr
    go_enter Try.func76, Try.ntmps76
    go_wp2
    (refine bodyPost_ret (v := ?_) (by simp [results, Try.results76, go_sem]; rfl) rfl ?_)
    refine ⟨a, cap, none, 0, 0, rfl, ?_, hr.out.ext ?_, OwnG.none _ _⟩ <;> (repeat (first | exact Ext.refl _ | assumption | refine Ext.alloc ?_ _ | refine Ext.ext ?_ _ | refine Ext.drew ?_))
end Go.Proofs.Ytendgmnbnnkpnaa.G
namespace Go.Proofs.Ytendgmnbnnkpnaa.G
open Go.RowKit
set_option maxHeartbeats 1000000 in
theorem win_o (r : Rec) (h : ROk r) (a : Option Addr) (cap : Nat) (w : World) (hr : RepT w a r.Ts) :
    Calls Try.prog 22 #[.agg #[.int .i64 r.Kind, .int .i64 r.Node, .int .i64 r.State, .int .i64 r.Count, .slice a r.Ts.length cap, .int .i64 r.L.X, .int .i64 r.L.Y, .int .i64 r.L.T]] w fun e w' =>
      ∃ a' c' v, e = .returned (.tuple #[.agg (recC (win r).1 a' c').toArray, v]) ∧ Ext w w' ∧ TsO w' a' c' (win r).1.Ts ∧ RepG w' v (win r).2 := by
  have hcl := Lib.hid (clone_r r h a cap)
  have hts := Lib.hid h.ts
  by_cases h2 : r.State = 2
  · by_cases hc : cont r.Kind = true
    · have hw : win r = ({ r with State := 3, Count := 1 }, [stageG r 2, stageG r 3]) := by simp [win, h2, hc]
      rw [hw]
      have hk : (r.State == 2) = true := by simpa using h2
      have hl := h.sure hc (.inl h2)
      have h' : ROk { r with State := 3, Count := 1 } := ⟨h.kind, h.node, by simp, by simp, h.last, h.len, h.ts, by simp, fun _ _ => hl⟩
      have m2 : ∀ (a : Option Addr) (cap : Nat) (w : World), _ := fun a cap w => moves_r { r with State := 3, Count := 1 } h' hc hl 2 (by simp) a cap w
      have m3 : ∀ (a : Option Addr) (cap : Nat) (w : World), _ := fun a cap w => moves_r { r with State := 3, Count := 1 } h' hc hl 3 (by simp) a cap w
      have e2 : stageG { r with State := 3, Count := 1 } 2 = stageG r 2 := rfl
      have e3 : stageG { r with State := 3, Count := 1 } 3 = stageG r 3 := rfl
      rw [e2] at m2
      rw [e3] at m3
      obtain ⟨G, hG⟩ : ∃ G, G = stageG r 2 := ⟨_, rfl⟩
      obtain ⟨K, hK⟩ : ∃ K, K = stageG r 3 := ⟨_, rfl⟩
      rw [← hG] at m2 ⊢
      rw [← hK] at m3 ⊢
      simp only [gesV] at m2 m3
      replace m2 := Lib.hid m2
      replace m3 := Lib.hid m3
      replace h2 := Lib.hid h2
      clear e2 e3 hG hK hw h' hl
      go_enter Try.func22, Try.ntmps22
      go_wp2_with fail
      refine (hcl.out _ (hr.ext (by (repeat (first | exact Ext.refl _ | assumption | refine Ext.alloc ?_ _ | refine Ext.ext ?_ _ | refine Ext.drew ?_))))).mono ?_
      rintro e w1 ⟨a1, c1, rfl, ⟨d1, rfl⟩, hown⟩
      go_wp2_with (go_at_call 34; refine (cont_any _ _).mono ?_; rintro e w' ⟨rfl, rfl⟩)
      have hrz : ∀ (z : Array Value) (d : Grow), TsO ((((w.alloc (.cells #[.int .i64 r.Kind, .int .i64 r.Node, .int .i64 3, .int .i64 1, .slice a1 r.Ts.length c1, .int .i64 r.L.X, .int .i64 r.L.Y, .int .i64 r.L.T] 26)).alloc (.cells z 26)).ext d1).ext d) a1 c1 r.Ts := fun z d => .inr (((OwnT.weak hts.out (hown.like (S := fun k => k < w.heap.size + 2) (Y := ((w.alloc (.cells #[.int .i64 r.Kind, .int .i64 r.Node, .int .i64 3, .int .i64 1, .slice a1 r.Ts.length c1, .int .i64 r.L.X, .int .i64 r.L.Y, .int .i64 r.L.T] 26)).alloc (.cells z 26)).ext d1) (by (repeat (first | exact Like.refl _ _ | refine Like.ext ?_ _ | refine Like.alloc ?_ _ | refine Like.swap ?_ (by simp <;> omega) _ _))) (by simp))).base (Nat.zero_le _)).ext (Ext.ext (Ext.refl _) d))
      replace hrz := Lib.hid hrz
      clear hown hcl
      (refine wp_region_calm_z (fun z => ((w.alloc (.cells #[.int .i64 r.Kind, .int .i64 r.Node, .int .i64 3, .int .i64 1, .slice a1 r.Ts.length c1, .int .i64 r.L.X, .int .i64 r.L.Y, .int .i64 r.L.T] 26)).alloc (.cells z 26)).ext d1) 6 [0, 1, 2, 3, 4] [5] [] [7] #[.int .i64 r.Kind, .int .i64 r.Node, .int .i64 3, .int .i64 1, .slice a1 r.Ts.length c1, .int .i64 r.L.X, .int .i64 r.L.Y, .int .i64 r.L.T] (by kernel_rfl) (by kernel_rfl) (by simp only [List.filterMap_cons, List.filterMap_nil, List.getElem?_toArray, List.getElem?_cons_succ, List.getElem?_cons_zero]; try exact rfl) (by simp only [List.filterMap_cons, List.filterMap_nil, List.getElem?_toArray, List.getElem?_cons_succ, List.getElem?_cons_zero]; try exact rfl) (by simp only [List.filterMap_cons, List.filterMap_nil, List.getElem?_toArray, List.getElem?_cons_succ, List.getElem?_cons_zero]; try exact rfl) (by intro z; simp) ?_; (repeat (first | (refine ql_plain rfl rfl ?_; intro K hK; go_big_quiet_op; go_big_quiet_on) | (refine ql_nilCheck rfl rfl rfl ?_; intro K hK; simp only [Act.put, List.setIfInBounds_toArray, List.set_cons_succ, List.set_cons_zero]; go_big_quiet_on) | (refine ql_callz (fun _ _ => (m2.out _ _ _ (hrz.out _ _).rep)) rfl rfl Try.func39 rfl (by kernel_rfl) rfl ?_; intro K hK; simp only [Act.put, List.setIfInBounds_toArray, List.set_cons_succ, List.set_cons_zero]; go_big_quiet_on) | (refine ql_callz (fun _ _ => (m3.out _ _ _ (hrz.out _ _).rep)) rfl rfl Try.func39 rfl (by kernel_rfl) rfl ?_; intro K hK; simp only [Act.put, List.setIfInBounds_toArray, List.set_cons_succ, List.set_cons_zero]; go_big_quiet_on) | (refine ql_skip rfl ?_; intro K hK; simp only [Act.put, List.setIfInBounds_toArray, List.set_cons_succ, List.set_cons_zero]; go_big_quiet_on))); refine ql_nil ?_; refine ⟨?_, ?_⟩; (focus (refine wo1z (Wf := (fun z => ((w.alloc (.cells #[.int .i64 r.Kind, .int .i64 r.Node, .int .i64 3, .int .i64 1, .slice a1 r.Ts.length c1, .int .i64 r.L.X, .int .i64 r.L.Y, .int .i64 r.L.T] 26)).alloc (.cells z 26)).ext d1)) (z1 := #[.int .i64 r.Kind, .int .i64 r.Node, .int .i64 3, .int .i64 1, .slice a1 r.Ts.length c1, .int .i64 r.L.X, .int .i64 r.L.Y, .int .i64 r.L.T]) ?_ (by simp only [List.getElem?_toArray, List.getElem?_cons_succ, List.getElem?_cons_zero]; try exact rfl) ?_ ?_ ?_; intro z; simp; rfl; rfl; intro d; go_simp)))
      refine mw1 (mkz_sl (.cells (#[.int .i64 (G).Kind, .int .i64 (G).Node, .int .i64 (G).Phase, .int .i64 (G).X, .int .i64 (G).Y, .int .i64 (G).DX, .int .i64 (G).DY, .int .i64 (G).Scale, .int .i64 (G).VX, .int .i64 (G).VY] ++ #[.int .i64 (K).Kind, .int .i64 (K).Node, .int .i64 (K).Phase, .int .i64 (K).X, .int .i64 (K).Y, .int .i64 (K).DX, .int .i64 (K).DY, .int .i64 (K).Scale, .int .i64 (K).VX, .int .i64 (K).VY]) 49) 2 (by intro z; simp) (by simp only [List.getElem?_toArray, List.getElem?_cons_succ, List.getElem?_cons_zero]; try exact rfl) rfl (fun z d => by go_simp)) ?_; intro u1 hu1 K hK; simp only [Act.put, List.setIfInBounds_toArray, List.set_cons_succ, List.set_cons_zero, List.getElem?_toArray, List.getElem?_cons_succ, List.getElem?_cons_zero, Option.bind_some]; refine hK _ ?_; clear hK K; (repeat (first | (refine pl_plain rfl rfl ?_; intro K hK; go_big_quiet_op; go_big_quiet_on) | (refine pl_nilCheck rfl rfl rfl ?_; intro K hK; simp only [Act.put, List.setIfInBounds_toArray, List.set_cons_succ, List.set_cons_zero]; go_big_quiet_on))); refine pl_nil ?_; rintro w1 he1 ⟨_, hf1⟩
      obtain ⟨g1, rfl, hg⟩ := hf1
      obtain ⟨d2, rfl⟩ := he1
      go_wp2; refine only_normal ?_
      go_wp2
      (refine bodyPost_ret (v := ?_) (by simp [results, Try.results22, go_sem]; rfl) rfl ?_)
      refine ⟨a1, c1, _, rfl, ?_, hrz.out _ _, repG_two hg⟩
      (repeat (first | exact Ext.refl _ | assumption | refine Ext.alloc ?_ _ | refine Ext.ext ?_ _ | refine Ext.drew ?_))
    · have hw : win r = (over r, [onceG r]) := by simp [win, h2, hc]
      rw [hw]
      have hk : (r.State == 2) = true := by simpa using h2
      have hk2 : cont r.Kind = false := by simpa using hc
      replace h2 := Lib.hid h2
      obtain ⟨G, hG⟩ : ∃ G, G = onceG r := ⟨_, rfl⟩
      have ho := once_r r h
      rw [← hG] at ho ⊢
      simp only [gesV] at ho
      replace ho := Lib.hid ho
      clear hc hw
      go_enter Try.func22, Try.ntmps22
      go_wp2_with fail
      refine (hcl.out _ (hr.ext (by (repeat (first | exact Ext.refl _ | assumption | refine Ext.alloc ?_ _ | refine Ext.ext ?_ _ | refine Ext.drew ?_))))).mono ?_
      rintro e w1 ⟨a1, c1, rfl, ⟨d1, rfl⟩, hown⟩
      go_wp2_with (go_at_call 34; refine (cont_any _ _).mono ?_; rintro e w' ⟨rfl, rfl⟩)
      have hrep := hown.rep
      have hrz : ∀ (z : Array Value) (d : Grow), TsO ((((w.alloc (.cells #[.int .i64 r.Kind, .int .i64 r.Node, .int .i64 r.State, .int .i64 r.Count, .slice a1 r.Ts.length c1, .int .i64 r.L.X, .int .i64 r.L.Y, .int .i64 r.L.T] 26)).alloc (.cells z 26)).ext d1).ext d) a1 c1 r.Ts := fun z d => .inr (((OwnT.weak hts.out (hown.like (S := fun k => k < w.heap.size + 2) (Y := ((w.alloc (.cells #[.int .i64 r.Kind, .int .i64 r.Node, .int .i64 r.State, .int .i64 r.Count, .slice a1 r.Ts.length c1, .int .i64 r.L.X, .int .i64 r.L.Y, .int .i64 r.L.T] 26)).alloc (.cells z 26)).ext d1) (by (repeat (first | exact Like.refl _ _ | refine Like.ext ?_ _ | refine Like.alloc ?_ _ | refine Like.swap ?_ (by simp <;> omega) _ _))) (by simp))).base (Nat.zero_le _)).ext (Ext.ext (Ext.refl _) d))
      replace hrz := Lib.hid hrz
      clear hown hcl
      (refine wp_region_calm_z (fun z => ((w.alloc (.cells #[.int .i64 r.Kind, .int .i64 r.Node, .int .i64 r.State, .int .i64 r.Count, .slice a1 r.Ts.length c1, .int .i64 r.L.X, .int .i64 r.L.Y, .int .i64 r.L.T] 26)).alloc (.cells z 26)).ext d1) 5 [0, 1, 2, 3] [4] [] [6] #[.int .i64 r.Kind, .int .i64 r.Node, .int .i64 4, .int .i64 r.Count, .slice none 0 0, .int .i64 r.L.X, .int .i64 r.L.Y, .int .i64 r.L.T] (by kernel_rfl) (by kernel_rfl) (by simp only [List.filterMap_cons, List.filterMap_nil, List.getElem?_toArray, List.getElem?_cons_succ, List.getElem?_cons_zero]; try exact rfl) (by simp only [List.filterMap_cons, List.filterMap_nil, List.getElem?_toArray, List.getElem?_cons_succ, List.getElem?_cons_zero]; try exact rfl) (by simp only [List.filterMap_cons, List.filterMap_nil, List.getElem?_toArray, List.getElem?_cons_succ, List.getElem?_cons_zero]; try exact rfl) (by intro z; simp) ?_; (repeat (first | (refine ql_plain rfl rfl ?_; intro K hK; go_big_quiet_op; go_big_quiet_on) | (refine ql_nilCheck rfl rfl rfl ?_; intro K hK; simp only [Act.put, List.setIfInBounds_toArray, List.set_cons_succ, List.set_cons_zero]; go_big_quiet_on) | (refine ql_callz (fun _ _ => over_any _ _ _ _ _ _ _ _ _ _ _) rfl rfl Try.func37 rfl (by kernel_rfl) rfl ?_; intro K hK; simp only [Act.put, List.setIfInBounds_toArray, List.set_cons_succ, List.set_cons_zero]; go_big_quiet_on) | (refine ql_callz (fun _ _ => (ho.out _ _ _ (hrz.out _ _).rep)) rfl rfl Try.func38 rfl (by kernel_rfl) rfl ?_; intro K hK; simp only [Act.put, List.setIfInBounds_toArray, List.set_cons_succ, List.set_cons_zero]; go_big_quiet_on) | (refine ql_skip rfl ?_; intro K hK; simp only [Act.put, List.setIfInBounds_toArray, List.set_cons_succ, List.set_cons_zero]; go_big_quiet_on))); refine ql_nil ?_; refine ⟨?_, ?_⟩; (focus (refine wo1z (Wf := (fun z => ((w.alloc (.cells #[.int .i64 r.Kind, .int .i64 r.Node, .int .i64 r.State, .int .i64 r.Count, .slice a1 r.Ts.length c1, .int .i64 r.L.X, .int .i64 r.L.Y, .int .i64 r.L.T] 26)).alloc (.cells z 26)).ext d1)) (z1 := #[.int .i64 r.Kind, .int .i64 r.Node, .int .i64 4, .int .i64 r.Count, .slice none 0 0, .int .i64 r.L.X, .int .i64 r.L.Y, .int .i64 r.L.T]) ?_ (by simp only [List.getElem?_toArray, List.getElem?_cons_succ, List.getElem?_cons_zero]; try exact rfl) ?_ ?_ ?_; intro z; simp; rfl; rfl; intro d; go_simp)))
      refine mw1 (mkz_sl (.cells #[.int .i64 (G).Kind, .int .i64 (G).Node, .int .i64 (G).Phase, .int .i64 (G).X, .int .i64 (G).Y, .int .i64 (G).DX, .int .i64 (G).DY, .int .i64 (G).Scale, .int .i64 (G).VX, .int .i64 (G).VY] 49) 1 (by intro z; simp) (by simp only [List.getElem?_toArray, List.getElem?_cons_succ, List.getElem?_cons_zero]; try exact rfl) rfl (fun z d => by go_simp)) ?_; intro u1 hu1 K hK; simp only [Act.put, List.setIfInBounds_toArray, List.set_cons_succ, List.set_cons_zero, List.getElem?_toArray, List.getElem?_cons_succ, List.getElem?_cons_zero, Option.bind_some]; refine hK _ ?_; clear hK K; (repeat (first | (refine pl_plain rfl rfl ?_; intro K hK; go_big_quiet_op; go_big_quiet_on) | (refine pl_nilCheck rfl rfl rfl ?_; intro K hK; simp only [Act.put, List.setIfInBounds_toArray, List.set_cons_succ, List.set_cons_zero]; go_big_quiet_on))); refine pl_nil ?_; rintro w1 he1 ⟨_, hf1⟩
      obtain ⟨g1, rfl, hg⟩ := hf1
      obtain ⟨d2, rfl⟩ := he1
      go_wp2; refine only_normal ?_
      go_wp2
      (refine bodyPost_ret (v := ?_) (by simp [results, Try.results22, go_sem]; rfl) rfl ?_)
      refine ⟨none, 0, _, rfl, ?_, .inl rfl, repG_one hg⟩
      (repeat (first | exact Ext.refl _ | assumption | refine Ext.alloc ?_ _ | refine Ext.ext ?_ _ | refine Ext.drew ?_))
  · have hk : (r.State == 2) = false := by simpa using h2
    by_cases h01 : r.State = 0 ∨ r.State = 1
    · have hw : win r = ({ r with State := 3 }, []) := by simp [win, h2, h01]
      rw [hw]
      clear hw h2
      by_cases h0 : r.State = 0
      · have hk0 : (r.State == 0) = true := by simpa using h0
        clear h0 h01
        go_enter Try.func22, Try.ntmps22
        go_wp2_with fail
        refine (hcl.out _ (hr.ext (by (repeat (first | exact Ext.refl _ | assumption | refine Ext.alloc ?_ _ | refine Ext.ext ?_ _ | refine Ext.drew ?_))))).mono ?_
        rintro e w1 ⟨a1, c1, rfl, ⟨d1, rfl⟩, hown⟩
        have hrz : ∀ (st z : Array Value), TsO (((w.alloc (.cells st 26)).alloc (.cells z 26)).ext d1) a1 c1 r.Ts := fun st z => .inr ((OwnT.weak hts.out (hown.like (S := fun k => k < w.heap.size + 2) (by (repeat (first | exact Like.refl _ _ | refine Like.ext ?_ _ | refine Like.alloc ?_ _ | refine Like.swap ?_ (by simp <;> omega) _ _))) (by simp))).base (Nat.zero_le _))
        replace hrz := Lib.hid hrz
        clear hown
        go_wp2
        (refine bodyPost_ret (v := ?_) (by simp [results, Try.results22, go_sem]; rfl) rfl ?_)
        refine ⟨a1, c1, _, rfl, ?_, hrz.out _ _, .inl ⟨rfl, _, _, rfl⟩⟩
        (repeat (first | exact Ext.refl _ | assumption | refine Ext.alloc ?_ _ | refine Ext.ext ?_ _ | refine Ext.drew ?_))
      · have hk0 : (r.State == 0) = false := by simpa using h0
        have hk1 : (r.State == 1) = true := by simp; omega
        clear h0 h01
        go_enter Try.func22, Try.ntmps22
        go_wp2_with fail
        refine (hcl.out _ (hr.ext (by (repeat (first | exact Ext.refl _ | assumption | refine Ext.alloc ?_ _ | refine Ext.ext ?_ _ | refine Ext.drew ?_))))).mono ?_
        rintro e w1 ⟨a1, c1, rfl, ⟨d1, rfl⟩, hown⟩
        have hrz : ∀ (st z : Array Value), TsO (((w.alloc (.cells st 26)).alloc (.cells z 26)).ext d1) a1 c1 r.Ts := fun st z => .inr ((OwnT.weak hts.out (hown.like (S := fun k => k < w.heap.size + 2) (by (repeat (first | exact Like.refl _ _ | refine Like.ext ?_ _ | refine Like.alloc ?_ _ | refine Like.swap ?_ (by simp <;> omega) _ _))) (by simp))).base (Nat.zero_le _))
        replace hrz := Lib.hid hrz
        clear hown
        go_wp2
        (refine bodyPost_ret (v := ?_) (by simp [results, Try.results22, go_sem]; rfl) rfl ?_)
        refine ⟨a1, c1, _, rfl, ?_, hrz.out _ _, .inl ⟨rfl, _, _, rfl⟩⟩
        (repeat (first | exact Ext.refl _ | assumption | refine Ext.alloc ?_ _ | refine Ext.ext ?_ _ | refine Ext.drew ?_))
    · have hw : win r = (r, []) := by simp [win, h2, h01]
      rw [hw]
      have hk0 : (r.State == 0) = false := by simp; omega
      have hk1 : (r.State == 1) = false := by simp; omega
      clear hw h2 h01
      go_enter Try.func22, Try.ntmps22
      go_wp2_with fail
      refine (hcl.out _ (hr.ext (by (repeat (first | exact Ext.refl _ | assumption | refine Ext.alloc ?_ _ | refine Ext.ext ?_ _ | refine Ext.drew ?_))))).mono ?_
      rintro e w1 ⟨a1, c1, rfl, ⟨d1, rfl⟩, hown⟩
      have hrz : ∀ (st z : Array Value), TsO (((w.alloc (.cells st 26)).alloc (.cells z 26)).ext d1) a1 c1 r.Ts := fun st z => .inr ((OwnT.weak hts.out (hown.like (S := fun k => k < w.heap.size + 2) (by (repeat (first | exact Like.refl _ _ | refine Like.ext ?_ _ | refine Like.alloc ?_ _ | refine Like.swap ?_ (by simp <;> omega) _ _))) (by simp))).base (Nat.zero_le _))
      replace hrz := Lib.hid hrz
      clear hown
      go_wp2
      (refine bodyPost_ret (v := ?_) (by simp [results, Try.results22, go_sem]; rfl) rfl ?_)
      refine ⟨a1, c1, _, rfl, ?_, hrz.out _ _, .inl ⟨rfl, _, _, rfl⟩⟩
      (repeat (first | exact Ext.refl _ | assumption | refine Ext.alloc ?_ _ | refine Ext.ext ?_ _ | refine Ext.drew ?_))
end Go.Proofs.Ytendgmnbnnkpnaa.G
namespace Go.Proofs.Ytendgmnbnnkpnaa.G
open Go.RowKit
set_option maxHeartbeats 1000000 in
theorem r_win (r : Rec) (h : ROk r) (a : Option Addr) (cap : Nat) (w : World) (hr : TsO w a cap r.Ts) :
    Calls Try.prog 44 #[.agg #[.int .i64 (r).Kind, .int .i64 (r).Node, .int .i64 (r).State, .int .i64 (r).Count, .slice a (r).Ts.length cap, .int .i64 (r).L.X, .int .i64 (r).L.Y, .int .i64 (r).L.T]] w fun e w' =>
      ∃ a' c' v, e = .returned (.tuple #[.agg (recC (win r).1 a' c').toArray, v]) ∧ Ext w w' ∧ TsO w' a' c' (win r).1.Ts ∧ RepG w' v (win r).2 := by
  by_cases h2 : r.State = 2
  · have hk : (r.State == 2) = true := by simpa using h2
    by_cases hc : cont r.Kind = true
    · have hw : win r = ({ r with State := 3, Count := 1 }, [stageG r 2, stageG r 3]) := by simp [win, h2, hc]
      rw [hw]
      have hl := h.sure hc (.inl h2)
      have h' : ROk { r with State := 3, Count := 1 } := ⟨h.kind, h.node, by simp, by simp, h.last, h.len, h.ts, by simp, fun _ _ => hl⟩
      have m2 : ∀ (a : Option Addr) (cap : Nat) (w : World), _ := fun a cap w => r_stage { r with State := 3, Count := 1 } h' hc hl 2 (by simp) a cap w
      have m3 : ∀ (a : Option Addr) (cap : Nat) (w : World), _ := fun a cap w => r_stage { r with State := 3, Count := 1 } h' hc hl 3 (by simp) a cap w
      have e2 : stageG { r with State := 3, Count := 1 } 2 = stageG r 2 := rfl
      have e3 : stageG { r with State := 3, Count := 1 } 3 = stageG r 3 := rfl
      rw [e2] at m2
      rw [e3] at m3
      obtain ⟨G, hG⟩ : ∃ G, G = stageG r 2 := ⟨_, rfl⟩
      obtain ⟨K, hK⟩ : ∃ K, K = stageG r 3 := ⟨_, rfl⟩
      rw [← hG] at m2 ⊢
      rw [← hK] at m3 ⊢
      simp only [gesV] at m2 m3
      replace m2 := Lib.hid m2
      replace m3 := Lib.hid m3
      replace h2 := Lib.hid h2
      clear e2 e3 hG hK hw h' hl
      have hrz : ∀ (z : Array Value) (d : Grow), TsO (((w.alloc (.cells #[.int .i64 r.Kind, .int .i64 r.Node, .int .i64 3, .int .i64 1, .slice a r.Ts.length cap, .int .i64 r.L.X, .int .i64 r.L.Y, .int .i64 r.L.T] 26)).alloc (.cells z 26)).ext d) a cap r.Ts := fun z d => hr.ext (by (repeat (first | exact Ext.refl _ | assumption | refine Ext.alloc ?_ _ | refine Ext.ext ?_ _ | refine Ext.drew ?_)))
      replace hrz := Lib.hid hrz
      replace hr := Lib.hid hr
      go_enter Try.func44, Try.ntmps44
      go_wp2_with (go_at_call 69; refine (r_dragging _ _).mono ?_; rintro e w' ⟨rfl, rfl⟩)
      (refine wp_region_calm_z (fun z => ((w.alloc (.cells #[.int .i64 r.Kind, .int .i64 r.Node, .int .i64 3, .int .i64 1, .slice a r.Ts.length cap, .int .i64 r.L.X, .int .i64 r.L.Y, .int .i64 r.L.T] 26)).alloc (.cells z 26))) 6 [0, 1, 2, 3, 4] [5] [] [7] #[.int .i64 r.Kind, .int .i64 r.Node, .int .i64 3, .int .i64 1, .slice a r.Ts.length cap, .int .i64 r.L.X, .int .i64 r.L.Y, .int .i64 r.L.T] (by kernel_rfl) (by kernel_rfl) (by simp only [List.filterMap_cons, List.filterMap_nil, List.getElem?_toArray, List.getElem?_cons_succ, List.getElem?_cons_zero]; try exact rfl) (by simp only [List.filterMap_cons, List.filterMap_nil, List.getElem?_toArray, List.getElem?_cons_succ, List.getElem?_cons_zero]; try exact rfl) (by simp only [List.filterMap_cons, List.filterMap_nil, List.getElem?_toArray, List.getElem?_cons_succ, List.getElem?_cons_zero]; try exact rfl) (by intro z; simp) ?_; (repeat (first | (refine ql_plain rfl rfl ?_; intro K hK; go_big_quiet_op; go_big_quiet_on) | (refine ql_nilCheck rfl rfl rfl ?_; intro K hK; simp only [Act.put, List.setIfInBounds_toArray, List.set_cons_succ, List.set_cons_zero]; go_big_quiet_on) | (refine ql_callz (fun _ _ => (m2.out _ _ _ (hrz.out _ _).rep)) rfl rfl Try.func70 rfl (by kernel_rfl) rfl ?_; intro K hK; simp only [Act.put, List.setIfInBounds_toArray, List.set_cons_succ, List.set_cons_zero]; go_big_quiet_on) | (refine ql_callz (fun _ _ => (m3.out _ _ _ (hrz.out _ _).rep)) rfl rfl Try.func70 rfl (by kernel_rfl) rfl ?_; intro K hK; simp only [Act.put, List.setIfInBounds_toArray, List.set_cons_succ, List.set_cons_zero]; go_big_quiet_on) | (refine ql_skip rfl ?_; intro K hK; simp only [Act.put, List.setIfInBounds_toArray, List.set_cons_succ, List.set_cons_zero]; go_big_quiet_on))); refine ql_nil ?_; refine ⟨?_, ?_⟩; (focus (refine wo1z (Wf := (fun z => ((w.alloc (.cells #[.int .i64 r.Kind, .int .i64 r.Node, .int .i64 3, .int .i64 1, .slice a r.Ts.length cap, .int .i64 r.L.X, .int .i64 r.L.Y, .int .i64 r.L.T] 26)).alloc (.cells z 26)))) (z1 := #[.int .i64 r.Kind, .int .i64 r.Node, .int .i64 3, .int .i64 1, .slice a r.Ts.length cap, .int .i64 r.L.X, .int .i64 r.L.Y, .int .i64 r.L.T]) ?_ (by simp only [List.getElem?_toArray, List.getElem?_cons_succ, List.getElem?_cons_zero]; try exact rfl) ?_ ?_ ?_; intro z; simp; rfl; rfl; intro d; go_simp)))
      refine mw1 (mkz_sl (.cells (#[.int .i64 (G).Kind, .int .i64 (G).Node, .int .i64 (G).Phase, .int .i64 (G).X, .int .i64 (G).Y, .int .i64 (G).DX, .int .i64 (G).DY, .int .i64 (G).Scale, .int .i64 (G).VX, .int .i64 (G).VY] ++ #[.int .i64 (K).Kind, .int .i64 (K).Node, .int .i64 (K).Phase, .int .i64 (K).X, .int .i64 (K).Y, .int .i64 (K).DX, .int .i64 (K).DY, .int .i64 (K).Scale, .int .i64 (K).VX, .int .i64 (K).VY]) 49) 2 (by intro z; simp) (by simp only [List.getElem?_toArray, List.getElem?_cons_succ, List.getElem?_cons_zero]; try exact rfl) rfl (fun z d => by go_simp)) ?_; intro u1 hu1 K hK; simp only [Act.put, List.setIfInBounds_toArray, List.set_cons_succ, List.set_cons_zero, List.getElem?_toArray, List.getElem?_cons_succ, List.getElem?_cons_zero, Option.bind_some]; refine hK _ ?_; clear hK K; (repeat (first | (refine pl_plain rfl rfl ?_; intro K hK; go_big_quiet_op; go_big_quiet_on) | (refine pl_nilCheck rfl rfl rfl ?_; intro K hK; simp only [Act.put, List.setIfInBounds_toArray, List.set_cons_succ, List.set_cons_zero]; go_big_quiet_on))); refine pl_nil ?_; rintro w1 he1 ⟨_, hf1⟩
      obtain ⟨g1, rfl, hg⟩ := hf1
      obtain ⟨d2, rfl⟩ := he1
      go_wp2; refine only_normal ?_
      go_wp2
      (refine bodyPost_ret (v := ?_) (by simp [results, Try.results44, go_sem]; rfl) rfl ?_)
      refine ⟨a, cap, _, rfl, ?_, hrz.out _ _, repG_two hg⟩
      (repeat (first | exact Ext.refl _ | assumption | refine Ext.alloc ?_ _ | refine Ext.ext ?_ _ | refine Ext.drew ?_))
    · have hw : win r = (over r, [onceG r]) := by simp [win, h2, hc]
      rw [hw]
      have hk2 : cont r.Kind = false := by simpa using hc
      obtain ⟨G, hG⟩ : ∃ G, G = onceG r := ⟨_, rfl⟩
      have ho := Lib.hid fun B w' (he : Ext w w') => once_mk h (B := B) (a := a) (cap := cap) (w := w') (hr.rep.ext he)
      rw [← hG] at ho ⊢
      replace h2 := Lib.hid h2
      clear hc hw hG h
      replace hr := Lib.hid hr
      go_enter Try.func44, Try.ntmps44
      go_wp2_with (go_at_call 69; refine (r_dragging _ _).mono ?_; rintro e w' ⟨rfl, rfl⟩)
      (refine wp_region_calm_ops [0, 1, 2] [3] [] [4, 5] (by kernel_rfl) (by kernel_rfl) (by simp only [List.filterMap_cons, List.filterMap_nil, List.getElem?_toArray, List.getElem?_cons_succ, List.getElem?_cons_zero]; try exact rfl) (by simp only [List.filterMap_cons, List.filterMap_nil, List.getElem?_toArray, List.getElem?_cons_succ, List.getElem?_cons_zero]; try exact rfl) (by simp only [List.filterMap_cons, List.filterMap_nil, List.getElem?_toArray, List.getElem?_cons_succ, List.getElem?_cons_zero]; try exact rfl) ?_; (repeat (first | (refine ql_plain rfl rfl ?_; intro K hK; go_big_quiet_op; go_big_quiet_on) | (refine ql_nilCheck rfl rfl rfl ?_; intro K hK; simp only [Act.put, List.setIfInBounds_toArray, List.set_cons_succ, List.set_cons_zero]; go_big_quiet_on) | (refine ql_call (fun _ => r_over _ _ _ _ _ _ _ _ _ _ _) rfl rfl Try.func46 rfl (by kernel_rfl) rfl ?_; intro K hK; simp only [Act.put, List.setIfInBounds_toArray, List.set_cons_succ, List.set_cons_zero]; go_big_quiet_on) | (refine ql_skip rfl ?_; intro K hK; simp only [Act.put, List.setIfInBounds_toArray, List.set_cons_succ, List.set_cons_zero]; go_big_quiet_on))); refine ql_nil ?_)
      refine mw1 (mk_call (f := 71) (stable_ownG (w.heap.size + 2) [G]) (fun _ => ho.out (w.heap.size + 2) _ (by (repeat (first | exact Ext.refl _ | assumption | refine Ext.alloc ?_ _ | refine Ext.ext ?_ _ | refine Ext.drew ?_))) (by simp <;> omega)) (by simp only [List.getElem?_toArray, List.getElem?_cons_succ, List.getElem?_cons_zero]; try exact rfl) rfl rfl Try.func71 rfl (by kernel_rfl) rfl) ?_; intro u1 hu1 K hK; simp only [Act.put, List.setIfInBounds_toArray, List.set_cons_succ, List.set_cons_zero, List.getElem?_toArray, List.getElem?_cons_succ, List.getElem?_cons_zero, Option.bind_some]; refine hK _ ?_; clear hK K; (repeat (first | (refine pl_plain rfl rfl ?_; intro K hK; go_big_quiet_op; go_big_quiet_on) | (refine pl_nilCheck rfl rfl rfl ?_; intro K hK; simp only [Act.put, List.setIfInBounds_toArray, List.set_cons_succ, List.set_cons_zero]; go_big_quiet_on))); refine pl_nil ?_; rintro w1 he1 ⟨_, hf1⟩
      obtain ⟨va, vn, vc, rfl⟩ := hf1.form
      obtain ⟨d2, rfl⟩ := he1
      replace hf1 := Lib.hid hf1
      go_wp2; refine only_normal ?_
      go_wp2
      (refine bodyPost_ret (v := ?_) (by simp [results, Try.results44, go_sem]; rfl) rfl ?_)
      refine ⟨none, 0, _, rfl, ?_, .inl rfl, (hf1.out.turn (S := fun k => k < w.heap.size + 2) (Nat.zero_le _) (by (repeat (first | exact Like.refl _ _ | refine Like.ext ?_ _ | refine Like.alloc ?_ _ | refine Like.swap ?_ (by simp <;> omega) _ _))) (fun k hk => by omega)).rep⟩
      (repeat (first | exact Ext.refl _ | assumption | refine Ext.alloc ?_ _ | refine Ext.ext ?_ _ | refine Ext.drew ?_))
  · have hk : (r.State == 2) = false := by simpa using h2
    by_cases h01 : r.State = 0 ∨ r.State = 1
    · have hw : win r = ({ r with State := 3 }, []) := by simp [win, h2, h01]
      rw [hw]
      clear hw h2 h
      replace hr := Lib.hid hr
      by_cases h0 : r.State = 0
      · have hk0 : (r.State == 0) = true := by simpa using h0
        clear h0 h01
        go_enter Try.func44, Try.ntmps44
        go_wp2
        (refine bodyPost_ret (v := ?_) (by simp [results, Try.results44, go_sem]; rfl) rfl ?_)
        refine ⟨a, cap, _, rfl, ?_, hr.out.ext ?_, .inl ⟨rfl, _, _, rfl⟩⟩ <;> (repeat (first | exact Ext.refl _ | assumption | refine Ext.alloc ?_ _ | refine Ext.ext ?_ _ | refine Ext.drew ?_))
      · have hk0 : (r.State == 0) = false := by simpa using h0
        have hk1 : (r.State == 1) = true := by simp; omega
        clear h0 h01
        go_enter Try.func44, Try.ntmps44
        go_wp2
        (refine bodyPost_ret (v := ?_) (by simp [results, Try.results44, go_sem]; rfl) rfl ?_)
        refine ⟨a, cap, _, rfl, ?_, hr.out.ext ?_, .inl ⟨rfl, _, _, rfl⟩⟩ <;> (repeat (first | exact Ext.refl _ | assumption | refine Ext.alloc ?_ _ | refine Ext.ext ?_ _ | refine Ext.drew ?_))
    · have hw : win r = (r, []) := by simp [win, h2, h01]
      rw [hw]
      have hk0 : (r.State == 0) = false := by simp; omega
      have hk1 : (r.State == 1) = false := by simp; omega
      clear hw h2 h01 h
      replace hr := Lib.hid hr
      go_enter Try.func44, Try.ntmps44
      go_wp2
      (refine bodyPost_ret (v := ?_) (by simp [results, Try.results44, go_sem]; rfl) rfl ?_)
      refine ⟨a, cap, _, rfl, ?_, hr.out.ext ?_, .inl ⟨rfl, _, _, rfl⟩⟩ <;> (repeat (first | exact Ext.refl _ | assumption | refine Ext.alloc ?_ _ | refine Ext.ext ?_ _ | refine Ext.drew ?_))
set_option maxHeartbeats 1000000 in
theorem r_abort (r : Rec) (h : ROk r) (a : Option Addr) (cap : Nat) (w : World) (hr : RepT w a r.Ts) :
    Calls Try.prog 48 #[.agg #[.int .i64 (r).Kind, .int .i64 (r).Node, .int .i64 (r).State, .int .i64 (r).Count, .slice a (r).Ts.length cap, .int .i64 (r).L.X, .int .i64 (r).L.Y, .int .i64 (r).L.T]] w fun e w' =>
      ∃ a' c' v, e = .returned (.tuple #[.agg (recC (abort r).1 a' c').toArray, v]) ∧ Ext w w' ∧ TsO w' a' c' (abort r).1.Ts ∧ OwnG w' w.heap.size v (abort r).2 := by
  by_cases hc : r.State = 3 ∧ r.Count = 1 ∧ cont r.Kind = true
  · have hw : abort r = (over r, [stageG r 5]) := by simp only [abort, if_pos hc]
    rw [hw]
    obtain ⟨h3, h1, hc⟩ := hc
    have hk : (r.State == 3) = true := by simpa using h3
    have hk1 : (r.Count == 1) = true := by simpa using h1
    have m5 : ∀ (a : Option Addr) (cap : Nat) (w : World), _ := fun a cap w => r_stage r h hc (h.sure hc (.inr ⟨h3, h1⟩)) 5 (by simp) a cap w
    obtain ⟨G, hG⟩ : ∃ G, G = stageG r 5 := ⟨_, rfl⟩
    rw [← hG] at m5 ⊢
    simp only [gesV] at m5
    replace m5 := Lib.hid m5
    clear h3 h1 hG hw
    go_enter Try.func48, Try.ntmps48
    go_wp2_with (go_at_call 69; refine (r_dragging _ _).mono ?_; rintro e w' ⟨rfl, rfl⟩)
    have hrz : ∀ (z : Array Value) (d : Grow), RepT (((w.alloc (.cells #[.int .i64 r.Kind, .int .i64 r.Node, .int .i64 r.State, .int .i64 r.Count, .slice a r.Ts.length cap, .int .i64 r.L.X, .int .i64 r.L.Y, .int .i64 r.L.T] 26)).alloc (.cells z 26)).ext d) a r.Ts := fun z d => hr.ext (by (repeat (first | exact Ext.refl _ | assumption | refine Ext.alloc ?_ _ | refine Ext.ext ?_ _ | refine Ext.drew ?_)))
    replace hrz := Lib.hid hrz
    (refine wp_region_calm_z (fun z => ((w.alloc (.cells #[.int .i64 r.Kind, .int .i64 r.Node, .int .i64 r.State, .int .i64 r.Count, .slice a r.Ts.length cap, .int .i64 r.L.X, .int .i64 r.L.Y, .int .i64 r.L.T] 26)).alloc (.cells z 26))) 5 [0, 1, 2, 3] [4] [] [6] #[.int .i64 r.Kind, .int .i64 r.Node, .int .i64 4, .int .i64 r.Count, .slice none 0 0, .int .i64 r.L.X, .int .i64 r.L.Y, .int .i64 r.L.T] (by kernel_rfl) (by kernel_rfl) (by simp only [List.filterMap_cons, List.filterMap_nil, List.getElem?_toArray, List.getElem?_cons_succ, List.getElem?_cons_zero]; try exact rfl) (by simp only [List.filterMap_cons, List.filterMap_nil, List.getElem?_toArray, List.getElem?_cons_succ, List.getElem?_cons_zero]; try exact rfl) (by simp only [List.filterMap_cons, List.filterMap_nil, List.getElem?_toArray, List.getElem?_cons_succ, List.getElem?_cons_zero]; try exact rfl) (by intro z; simp) ?_; (repeat (first | (refine ql_plain rfl rfl ?_; intro K hK; go_big_quiet_op; go_big_quiet_on) | (refine ql_nilCheck rfl rfl rfl ?_; intro K hK; simp only [Act.put, List.setIfInBounds_toArray, List.set_cons_succ, List.set_cons_zero]; go_big_quiet_on) | (refine ql_callz (fun _ _ => r_over _ _ _ _ _ _ _ _ _ _ _) rfl rfl Try.func46 rfl (by kernel_rfl) rfl ?_; intro K hK; simp only [Act.put, List.setIfInBounds_toArray, List.set_cons_succ, List.set_cons_zero]; go_big_quiet_on) | (refine ql_callz (fun _ _ => (m5.out _ _ _ (hrz.out _ _))) rfl rfl Try.func70 rfl (by kernel_rfl) rfl ?_; intro K hK; simp only [Act.put, List.setIfInBounds_toArray, List.set_cons_succ, List.set_cons_zero]; go_big_quiet_on) | (refine ql_skip rfl ?_; intro K hK; simp only [Act.put, List.setIfInBounds_toArray, List.set_cons_succ, List.set_cons_zero]; go_big_quiet_on))); refine ql_nil ?_; refine ⟨?_, ?_⟩; (focus (refine wo1z (Wf := (fun z => ((w.alloc (.cells #[.int .i64 r.Kind, .int .i64 r.Node, .int .i64 r.State, .int .i64 r.Count, .slice a r.Ts.length cap, .int .i64 r.L.X, .int .i64 r.L.Y, .int .i64 r.L.T] 26)).alloc (.cells z 26)))) (z1 := #[.int .i64 r.Kind, .int .i64 r.Node, .int .i64 4, .int .i64 r.Count, .slice none 0 0, .int .i64 r.L.X, .int .i64 r.L.Y, .int .i64 r.L.T]) ?_ (by simp only [List.getElem?_toArray, List.getElem?_cons_succ, List.getElem?_cons_zero]; try exact rfl) ?_ ?_ ?_; intro z; simp; rfl; rfl; intro d; go_simp)))
    refine mw1 (mkz_sl (.cells #[.int .i64 (G).Kind, .int .i64 (G).Node, .int .i64 (G).Phase, .int .i64 (G).X, .int .i64 (G).Y, .int .i64 (G).DX, .int .i64 (G).DY, .int .i64 (G).Scale, .int .i64 (G).VX, .int .i64 (G).VY] 49) 1 (by intro z; simp) (by simp only [List.getElem?_toArray, List.getElem?_cons_succ, List.getElem?_cons_zero]; try exact rfl) rfl (fun z d => by go_simp)) ?_; intro u1 hu1 K hK; simp only [Act.put, List.setIfInBounds_toArray, List.set_cons_succ, List.set_cons_zero, List.getElem?_toArray, List.getElem?_cons_succ, List.getElem?_cons_zero, Option.bind_some]; refine hK _ ?_; clear hK K; (repeat (first | (refine pl_plain rfl rfl ?_; intro K hK; go_big_quiet_op; go_big_quiet_on) | (refine pl_nilCheck rfl rfl rfl ?_; intro K hK; simp only [Act.put, List.setIfInBounds_toArray, List.set_cons_succ, List.set_cons_zero]; go_big_quiet_on))); refine pl_nil ?_; rintro w1 he1 ⟨_, hf1⟩
    obtain ⟨g1, rfl, hg⟩ := hf1
    obtain ⟨d2, rfl⟩ := he1
    go_wp2; refine only_normal ?_
    go_wp2
    (refine bodyPost_ret (v := ?_) (by simp [results, Try.results48, go_sem]; rfl) rfl ?_)
    refine ⟨none, 0, _, rfl, ?_, .inl rfl, ownG_one hg ?_⟩
    · (repeat (first | exact Ext.refl _ | assumption | refine Ext.alloc ?_ _ | refine Ext.ext ?_ _ | refine Ext.drew ?_))
    · have := hu1 _ rfl; simp only [World.size_ext, World.size_alloc] at this; omega
  · have hw : abort r = (over r, []) := by simp only [abort, if_neg hc]
    rw [hw]
    clear hr
    by_cases h3 : r.State = 3
    · have hk : (r.State == 3) = true := by simpa using h3
      by_cases h1 : r.Count = 1
      · have hk1 : (r.Count == 1) = true := by simpa using h1
        have hk2 : cont r.Kind = false := by simpa [h3, h1] using hc
        clear hw h3 h1 hc
        go_enter Try.func48, Try.ntmps48
        go_wp2_with (first | (go_at_call 69; refine (r_dragging _ _).mono ?_; rintro e w' ⟨rfl, rfl⟩) | (go_at_call 46; refine (r_over _ _ _ _ _ _ _ _ _ _ _).mono ?_; rintro e w' ⟨rfl, d, rfl⟩))
        (refine bodyPost_ret (v := ?_) (by simp [results, Try.results48, go_sem]; rfl) rfl ?_)
        refine ⟨none, 0, _, rfl, ?_, .inl rfl, OwnG.none _ _⟩
        (repeat (first | exact Ext.refl _ | assumption | refine Ext.alloc ?_ _ | refine Ext.ext ?_ _ | refine Ext.drew ?_))
      · have hk1 : (r.Count == 1) = false := by simpa using h1
        clear hw h3 h1 hc
        go_enter Try.func48, Try.ntmps48
        go_wp2_with (go_at_call 46; refine (r_over _ _ _ _ _ _ _ _ _ _ _).mono ?_; rintro e w' ⟨rfl, d, rfl⟩)
        (refine bodyPost_ret (v := ?_) (by simp [results, Try.results48, go_sem]; rfl) rfl ?_)
        refine ⟨none, 0, _, rfl, ?_, .inl rfl, OwnG.none _ _⟩
        (repeat (first | exact Ext.refl _ | assumption | refine Ext.alloc ?_ _ | refine Ext.ext ?_ _ | refine Ext.drew ?_))
    · have hk : (r.State == 3) = false := by simpa using h3
      clear hw h3 hc
      go_enter Try.func48, Try.ntmps48
      go_wp2_with (go_at_call 46; refine (r_over _ _ _ _ _ _ _ _ _ _ _).mono ?_; rintro e w' ⟨rfl, d, rfl⟩)
      (refine bodyPost_ret (v := ?_) (by simp [results, Try.results48, go_sem]; rfl) rfl ?_)
      refine ⟨none, 0, _, rfl, ?_, .inl rfl, OwnG.none _ _⟩
      (repeat (first | exact Ext.refl _ | assumption | refine Ext.alloc ?_ _ | refine Ext.ext ?_ _ | refine Ext.drew ?_))
end Go.Proofs.Ytendgmnbnnkpnaa.G
