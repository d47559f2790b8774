/- Win and Abort, walked. -/
import Derived.Test.YtendgmnbnnkpnaaI1
import Derived.WalkKit
import Derived.WalkSpells
import Derived.WalkLawsBesides
import Derived.Deep.QuietTactic
import Derived.BigQuiet
import Derived.BigRegion
import Derived.Lib.Hide
import Derived.Deep.RegionWith
set_option linter.unusedSimpArgs false
set_option linter.unusedVariables false
namespace Go.Proofs.Ytendgmnbnnkpnaa.G
open Go.RowKit

/-- a gesture's cells lie at a place -/
def GesAt (w : World) (b o : Nat) (g : Ges) : Prop := ∀ j v, (gesV g).cells[j]? = some v → w.cell? ⟨b, o + j, none⟩ = some v
/-- a slice of gestures -/
def RepG (w : World) (v : Value) (gs : List Ges) : Prop :=
  (gs = [] ∧ ∃ a c, v = .slice a 0 c) ∨ ∃ b off c, v = .slice (some ⟨b, off, none⟩) gs.length c ∧ ∀ i g, gs[i]? = some g → GesAt w b (off + i * 10) g
theorem RepG.ext {w w' : World} {v : Value} {gs : List Ges} (h : RepG w v gs) (he : Ext w w') : RepG w' v gs := by
  rcases h with h | ⟨b, off, c, h1, h2⟩
  · exact .inl h
  · exact .inr ⟨b, off, c, h1, fun i g hi j v hv => he.cell_some (h2 i g hi j v hv)⟩
@[go_sem] theorem forall_ext2 {α β : Type} {f : α → β → World} {p : World → Prop} : (∀ c a b, c = f a b → p c) ↔ ∀ a b, p (f a b) := ⟨fun h a b => h _ a b rfl, fun h _ a b e => e ▸ h a b⟩
theorem wo1z {P : Program} {ops : Array Oper} {Wf : Array Value → World} {z0 z1 : Array Value} {j : Nat} {o : Oper} {a : Act} (hsz : ∀ z, (Wf z).heap.size = (Wf z0).heap.size) (ho : ops[j]? = some o) (hd : o.dst = none) (hw : Region.wanted o (yielded ops a.tmps) = true)
    (hrun : ∀ d, (execOp a.eval o).run P ((Wf z0).ext d) = .ok .skip ((Wf z1).ext d)) : WO P ops (fun w => ∃ d, w = (Wf z0).ext d) (fun w => ∃ d, w = (Wf z1).ext d) (Mvz Wf) [j] a := wo1 hsz ho hd hw hrun
theorem OwnT.like {S : Nat → Prop} {X Y : World} {B : Nat} {v : Value} : ∀ {ts : List Tch}, OwnT X B v ts → Like S X Y → (∀ b, S b → b < B) → OwnT Y B v ts
  | [], h, hl, hS => ownsRow_like h hl (fun b hb hs => by have := (h.lt b hb).1; have := hS b hs; omega)
  | [_], ⟨g, c, h1, h2⟩, hl, hS => ⟨g, c, ownsRow_like h1 hl (fun b hb hs => by have := (h1.lt b hb).1; have := hS b hs; omega), ownsRow_like h2 hl (fun b hb hs => by have := (h2.lt b hb).1; have := hS b hs; omega)⟩
  | [_, _], ⟨g, c, h, d, h0, h1, h2, h3⟩, hl, hS => ⟨g, c, h, d, h0, ownsRow_like h1 hl (fun b hb hs => by have := (h1.lt b hb).1; have := hS b hs; omega), ownsRow_like h2 hl (fun b hb hs => by have := (h2.lt b hb).1; have := hS b hs; omega), ownsRow_like h3 hl (fun b hb hs => by have := (h3.lt b hb).1; have := hS b hs; omega)⟩
  | _ :: _ :: _ :: _, h, _, _ => h.elim
theorem gesAt_of {w : World} {b : Nat} {g : Ges} {t : TypeId} (h : w.heap[b]? = some (.cells #[.int .i64 (g).Kind, .int .i64 (g).Node, .int .i64 (g).Phase, .int .i64 (g).X, .int .i64 (g).Y, .int .i64 (g).DX, .int .i64 (g).DY, .int .i64 (g).Scale, .int .i64 (g).VX, .int .i64 (g).VY] t)) : GesAt w b 0 g := by
  intro j v hv
  rw [Nat.zero_add]
  simp only [World.cell?, h]
  exact hv
theorem repG_one {w : World} {b : Nat} {g : Ges} {t : TypeId} (h : w.heap[b]? = some (.cells #[.int .i64 (g).Kind, .int .i64 (g).Node, .int .i64 (g).Phase, .int .i64 (g).X, .int .i64 (g).Y, .int .i64 (g).DX, .int .i64 (g).DY, .int .i64 (g).Scale, .int .i64 (g).VX, .int .i64 (g).VY] t)) : RepG w (.slice (some ⟨b, 0, none⟩) 1 1) [g] :=
  .inr ⟨b, 0, 1, rfl, fun i g' hi => by
    have : i = 0 := by have := (List.getElem?_eq_some_iff.1 hi).1; simpa using this
    subst this
    obtain rfl : g = g' := by simpa using hi
    exact gesAt_of h⟩
theorem repG_two {w : World} {b : Nat} {g k : Ges} {t : TypeId} (h : w.heap[b]? = some (.cells (#[.int .i64 (g).Kind, .int .i64 (g).Node, .int .i64 (g).Phase, .int .i64 (g).X, .int .i64 (g).Y, .int .i64 (g).DX, .int .i64 (g).DY, .int .i64 (g).Scale, .int .i64 (g).VX, .int .i64 (g).VY] ++ #[.int .i64 (k).Kind, .int .i64 (k).Node, .int .i64 (k).Phase, .int .i64 (k).X, .int .i64 (k).Y, .int .i64 (k).DX, .int .i64 (k).DY, .int .i64 (k).Scale, .int .i64 (k).VX, .int .i64 (k).VY]) t)) : RepG w (.slice (some ⟨b, 0, none⟩) 2 2) [g, k] :=
  .inr ⟨b, 0, 2, rfl, fun i g' hi => by
    have : i = 0 ∨ i = 1 := by have := (List.getElem?_eq_some_iff.1 hi).1; simp at this; omega
    rcases this with rfl | rfl
    · obtain rfl : g = g' := by simpa using hi
      intro j v hv
      have hj : j < 10 := (Array.getElem?_eq_some_iff.1 hv).1
      simp only [World.cell?, h, Nat.zero_mul, Nat.zero_add]
      rw [Array.getElem?_append_left (by simpa using hj)]; exact hv
    · obtain rfl : k = g' := by simpa using hi
      intro j v hv
      simp only [World.cell?, h, Nat.one_mul, Nat.zero_add]
      rw [Array.getElem?_append_right (by simp)]
      have hv' : (#[.int .i64 (k).Kind, .int .i64 (k).Node, .int .i64 (k).Phase, .int .i64 (k).X, .int .i64 (k).Y, .int .i64 (k).DX, .int .i64 (k).DY, .int .i64 (k).Scale, .int .i64 (k).VX, .int .i64 (k).VY] : Array Value)[j]? = some v := hv
      simpa using hv'⟩
set_option maxHeartbeats 1000000 in
theorem win_r (r : Rec) (h : ROk r) (a : Option Addr) (cap : Nat) (w : World) (hr : RepT w a r.Ts) :
    Calls Try.prog 22 #[.agg #[.int .i64 r.Kind, .int .i64 r.Node, .int .i64 r.State, .int .i64 r.Count, .slice a r.Ts.length cap, .int .i64 r.L.X, .int .i64 r.L.Y, .int .i64 r.L.T]] w fun e w' =>
      ∃ a' c' v, e = .returned (.tuple #[.agg (recC (win r).1 a' c').toArray, v]) ∧ Ext w w' ∧ RepT w' a' (win r).1.Ts ∧ RepG w' v (win r).2 := by
  have hcl := Lib.hid (clone_r r h a cap)
  by_cases h2 : r.State = 2
  · by_cases hc : cont r.Kind = true
    · have hw : win r = ({ r with State := 3, Count := 1 }, [stageG r 2, stageG r 3]) := by simp [win, h2, hc]
      rw [hw]
      have hk : (r.State == 2) = true := by simpa using h2
      have hl := h.sure hc (.inl h2)
      have h' : ROk { r with State := 3, Count := 1 } := ⟨h.kind, h.node, by simp, by simp, h.last, h.len, h.ts, by simp, fun _ _ => hl⟩
      have m2 : ∀ (a : Option Addr) (cap : Nat) (w : World), _ := fun a cap w => moves_r { r with State := 3, Count := 1 } h' hc hl 2 (by simp) a cap w
      have m3 : ∀ (a : Option Addr) (cap : Nat) (w : World), _ := fun a cap w => moves_r { r with State := 3, Count := 1 } h' hc hl 3 (by simp) a cap w
      have e2 : stageG { r with State := 3, Count := 1 } 2 = stageG r 2 := rfl
      have e3 : stageG { r with State := 3, Count := 1 } 3 = stageG r 3 := rfl
      rw [e2] at m2
      rw [e3] at m3
      obtain ⟨G, hG⟩ : ∃ G, G = stageG r 2 := ⟨_, rfl⟩
      obtain ⟨K, hK⟩ : ∃ K, K = stageG r 3 := ⟨_, rfl⟩
      rw [← hG] at m2 ⊢
      rw [← hK] at m3 ⊢
      simp only [gesV] at m2 m3
      replace m2 := Lib.hid m2
      replace m3 := Lib.hid m3
      replace h2 := Lib.hid h2
      clear e2 e3 hG hK hw h' hl
      go_enter Try.func22, Try.ntmps22
      go_wp2_with fail
      refine (hcl.out _ (hr.ext (by (repeat (first | exact Ext.refl _ | assumption | refine Ext.alloc ?_ _ | refine Ext.ext ?_ _ | refine Ext.drew ?_))))).mono ?_
      rintro e w1 ⟨a1, c1, rfl, ⟨d1, rfl⟩, hown⟩
      go_wp2_with (go_at_call 34; refine (cont_any _ _).mono ?_; rintro e w' ⟨rfl, rfl⟩)
      have hrz : ∀ (z : Array Value) (d : Grow), RepT ((((w.alloc (.cells #[.int .i64 r.Kind, .int .i64 r.Node, .int .i64 3, .int .i64 1, .slice a1 r.Ts.length c1, .int .i64 r.L.X, .int .i64 r.L.Y, .int .i64 r.L.T] 26)).alloc (.cells z 26)).ext d1).ext d) a1 r.Ts := fun z d => ((hown.like (S := fun k => k < w.heap.size + 2) (Y := ((w.alloc (.cells #[.int .i64 r.Kind, .int .i64 r.Node, .int .i64 3, .int .i64 1, .slice a1 r.Ts.length c1, .int .i64 r.L.X, .int .i64 r.L.Y, .int .i64 r.L.T] 26)).alloc (.cells z 26)).ext d1) (by (repeat (first | exact Like.refl _ _ | refine Like.ext ?_ _ | refine Like.alloc ?_ _ | refine Like.swap ?_ (by simp <;> omega) _ _))) (by simp)).rep).ext (Ext.ext (Ext.refl _) d)
      replace hrz := Lib.hid hrz
      clear hown hcl
      (refine wp_region_calm_z (fun z => ((w.alloc (.cells #[.int .i64 r.Kind, .int .i64 r.Node, .int .i64 3, .int .i64 1, .slice a1 r.Ts.length c1, .int .i64 r.L.X, .int .i64 r.L.Y, .int .i64 r.L.T] 26)).alloc (.cells z 26)).ext d1) 6 [0, 1, 2, 3, 4] [5] [] [7] #[.int .i64 r.Kind, .int .i64 r.Node, .int .i64 3, .int .i64 1, .slice a1 r.Ts.length c1, .int .i64 r.L.X, .int .i64 r.L.Y, .int .i64 r.L.T] (by kernel_rfl) (by kernel_rfl) (by simp only [List.filterMap_cons, List.filterMap_nil, List.getElem?_toArray, List.getElem?_cons_succ, List.getElem?_cons_zero]; try exact rfl) (by simp only [List.filterMap_cons, List.filterMap_nil, List.getElem?_toArray, List.getElem?_cons_succ, List.getElem?_cons_zero]; try exact rfl) (by simp only [List.filterMap_cons, List.filterMap_nil, List.getElem?_toArray, List.getElem?_cons_succ, List.getElem?_cons_zero]; try exact rfl) (by intro z; simp) ?_; (repeat (first | (refine ql_plain rfl rfl ?_; intro K hK; go_big_quiet_op; go_big_quiet_on) | (refine ql_nilCheck rfl rfl rfl ?_; intro K hK; simp only [Act.put, List.setIfInBounds_toArray, List.set_cons_succ, List.set_cons_zero]; go_big_quiet_on) | (refine ql_callz (fun _ _ => (m2.out _ _ _ (hrz.out _ _))) rfl rfl Try.func39 rfl (by kernel_rfl) rfl ?_; intro K hK; simp only [Act.put, List.setIfInBounds_toArray, List.set_cons_succ, List.set_cons_zero]; go_big_quiet_on) | (refine ql_callz (fun _ _ => (m3.out _ _ _ (hrz.out _ _))) rfl rfl Try.func39 rfl (by kernel_rfl) rfl ?_; intro K hK; simp only [Act.put, List.setIfInBounds_toArray, List.set_cons_succ, List.set_cons_zero]; go_big_quiet_on) | (refine ql_skip rfl ?_; intro K hK; simp only [Act.put, List.setIfInBounds_toArray, List.set_cons_succ, List.set_cons_zero]; go_big_quiet_on))); refine ql_nil ?_; refine ⟨?_, ?_⟩; (focus (refine wo1z (Wf := (fun z => ((w.alloc (.cells #[.int .i64 r.Kind, .int .i64 r.Node, .int .i64 3, .int .i64 1, .slice a1 r.Ts.length c1, .int .i64 r.L.X, .int .i64 r.L.Y, .int .i64 r.L.T] 26)).alloc (.cells z 26)).ext d1)) (z1 := #[.int .i64 r.Kind, .int .i64 r.Node, .int .i64 3, .int .i64 1, .slice a1 r.Ts.length c1, .int .i64 r.L.X, .int .i64 r.L.Y, .int .i64 r.L.T]) ?_ (by simp only [List.getElem?_toArray, List.getElem?_cons_succ, List.getElem?_cons_zero]; try exact rfl) ?_ ?_ ?_; intro z; simp; rfl; rfl; intro d; go_simp)))
      refine mw1 (mkz_sl (.cells (#[.int .i64 (G).Kind, .int .i64 (G).Node, .int .i64 (G).Phase, .int .i64 (G).X, .int .i64 (G).Y, .int .i64 (G).DX, .int .i64 (G).DY, .int .i64 (G).Scale, .int .i64 (G).VX, .int .i64 (G).VY] ++ #[.int .i64 (K).Kind, .int .i64 (K).Node, .int .i64 (K).Phase, .int .i64 (K).X, .int .i64 (K).Y, .int .i64 (K).DX, .int .i64 (K).DY, .int .i64 (K).Scale, .int .i64 (K).VX, .int .i64 (K).VY]) 49) 2 (by intro z; simp) (by simp only [List.getElem?_toArray, List.getElem?_cons_succ, List.getElem?_cons_zero]; try exact rfl) rfl (fun z d => by go_simp)) ?_; intro u1 hu1 K hK; simp only [Act.put, List.setIfInBounds_toArray, List.set_cons_succ, List.set_cons_zero, List.getElem?_toArray, List.getElem?_cons_succ, List.getElem?_cons_zero, Option.bind_some]; refine hK _ ?_; clear hK K; (repeat (first | (refine pl_plain rfl rfl ?_; intro K hK; go_big_quiet_op; go_big_quiet_on) | (refine pl_nilCheck rfl rfl rfl ?_; intro K hK; simp only [Act.put, List.setIfInBounds_toArray, List.set_cons_succ, List.set_cons_zero]; go_big_quiet_on))); refine pl_nil ?_; rintro w1 he1 ⟨_, hf1⟩
      obtain ⟨g1, rfl, hg⟩ := hf1
      obtain ⟨d2, rfl⟩ := he1
      go_wp2; refine only_normal ?_
      go_wp2
      (refine bodyPost_ret (v := ?_) (by simp [results, Try.results22, go_sem]; rfl) rfl ?_)
      refine ⟨a1, c1, _, rfl, ?_, hrz.out _ _, repG_two hg⟩
      (repeat (first | exact Ext.refl _ | assumption | refine Ext.alloc ?_ _ | refine Ext.ext ?_ _ | refine Ext.drew ?_))
    · have hw : win r = (over r, [onceG r]) := by simp [win, h2, hc]
      rw [hw]
      have hk : (r.State == 2) = true := by simpa using h2
      have hk2 : cont r.Kind = false := by simpa using hc
      replace h2 := Lib.hid h2
      obtain ⟨G, hG⟩ : ∃ G, G = onceG r := ⟨_, rfl⟩
      have ho := once_r r h
      rw [← hG] at ho ⊢
      simp only [gesV] at ho
      replace ho := Lib.hid ho
      clear hc hw
      go_enter Try.func22, Try.ntmps22
      go_wp2_with fail
      refine (hcl.out _ (hr.ext (by (repeat (first | exact Ext.refl _ | assumption | refine Ext.alloc ?_ _ | refine Ext.ext ?_ _ | refine Ext.drew ?_))))).mono ?_
      rintro e w1 ⟨a1, c1, rfl, ⟨d1, rfl⟩, hown⟩
      go_wp2_with (go_at_call 34; refine (cont_any _ _).mono ?_; rintro e w' ⟨rfl, rfl⟩)
      have hrep := hown.rep
      have hrz : ∀ (z : Array Value) (d : Grow), RepT ((((w.alloc (.cells #[.int .i64 r.Kind, .int .i64 r.Node, .int .i64 r.State, .int .i64 r.Count, .slice a1 r.Ts.length c1, .int .i64 r.L.X, .int .i64 r.L.Y, .int .i64 r.L.T] 26)).alloc (.cells z 26)).ext d1).ext d) a1 r.Ts := fun z d => ((hown.like (S := fun k => k < w.heap.size + 2) (Y := ((w.alloc (.cells #[.int .i64 r.Kind, .int .i64 r.Node, .int .i64 r.State, .int .i64 r.Count, .slice a1 r.Ts.length c1, .int .i64 r.L.X, .int .i64 r.L.Y, .int .i64 r.L.T] 26)).alloc (.cells z 26)).ext d1) (by (repeat (first | exact Like.refl _ _ | refine Like.ext ?_ _ | refine Like.alloc ?_ _ | refine Like.swap ?_ (by simp <;> omega) _ _))) (by simp)).rep).ext (Ext.ext (Ext.refl _) d)
      replace hrz := Lib.hid hrz
      clear hown hcl
      (refine wp_region_calm_z (fun z => ((w.alloc (.cells #[.int .i64 r.Kind, .int .i64 r.Node, .int .i64 r.State, .int .i64 r.Count, .slice a1 r.Ts.length c1, .int .i64 r.L.X, .int .i64 r.L.Y, .int .i64 r.L.T] 26)).alloc (.cells z 26)).ext d1) 5 [0, 1, 2, 3] [4] [] [6] #[.int .i64 r.Kind, .int .i64 r.Node, .int .i64 4, .int .i64 r.Count, .slice none 0 0, .int .i64 r.L.X, .int .i64 r.L.Y, .int .i64 r.L.T] (by kernel_rfl) (by kernel_rfl) (by simp only [List.filterMap_cons, List.filterMap_nil, List.getElem?_toArray, List.getElem?_cons_succ, List.getElem?_cons_zero]; try exact rfl) (by simp only [List.filterMap_cons, List.filterMap_nil, List.getElem?_toArray, List.getElem?_cons_succ, List.getElem?_cons_zero]; try exact rfl) (by simp only [List.filterMap_cons, List.filterMap_nil, List.getElem?_toArray, List.getElem?_cons_succ, List.getElem?_cons_zero]; try exact rfl) (by intro z; simp) ?_; (repeat (first | (refine ql_plain rfl rfl ?_; intro K hK; go_big_quiet_op; go_big_quiet_on) | (refine ql_nilCheck rfl rfl rfl ?_; intro K hK; simp only [Act.put, List.setIfInBounds_toArray, List.set_cons_succ, List.set_cons_zero]; go_big_quiet_on) | (refine ql_callz (fun _ _ => over_any _ _ _ _ _ _ _ _ _ _ _) rfl rfl Try.func37 rfl (by kernel_rfl) rfl ?_; intro K hK; simp only [Act.put, List.setIfInBounds_toArray, List.set_cons_succ, List.set_cons_zero]; go_big_quiet_on) | (refine ql_callz (fun _ _ => (ho.out _ _ _ (hrz.out _ _))) rfl rfl Try.func38 rfl (by kernel_rfl) rfl ?_; intro K hK; simp only [Act.put, List.setIfInBounds_toArray, List.set_cons_succ, List.set_cons_zero]; go_big_quiet_on) | (refine ql_skip rfl ?_; intro K hK; simp only [Act.put, List.setIfInBounds_toArray, List.set_cons_succ, List.set_cons_zero]; go_big_quiet_on))); refine ql_nil ?_; refine ⟨?_, ?_⟩; (focus (refine wo1z (Wf := (fun z => ((w.alloc (.cells #[.int .i64 r.Kind, .int .i64 r.Node, .int .i64 r.State, .int .i64 r.Count, .slice a1 r.Ts.length c1, .int .i64 r.L.X, .int .i64 r.L.Y, .int .i64 r.L.T] 26)).alloc (.cells z 26)).ext d1)) (z1 := #[.int .i64 r.Kind, .int .i64 r.Node, .int .i64 4, .int .i64 r.Count, .slice none 0 0, .int .i64 r.L.X, .int .i64 r.L.Y, .int .i64 r.L.T]) ?_ (by simp only [List.getElem?_toArray, List.getElem?_cons_succ, List.getElem?_cons_zero]; try exact rfl) ?_ ?_ ?_; intro z; simp; rfl; rfl; intro d; go_simp)))
      refine mw1 (mkz_sl (.cells #[.int .i64 (G).Kind, .int .i64 (G).Node, .int .i64 (G).Phase, .int .i64 (G).X, .int .i64 (G).Y, .int .i64 (G).DX, .int .i64 (G).DY, .int .i64 (G).Scale, .int .i64 (G).VX, .int .i64 (G).VY] 49) 1 (by intro z; simp) (by simp only [List.getElem?_toArray, List.getElem?_cons_succ, List.getElem?_cons_zero]; try exact rfl) rfl (fun z d => by go_simp)) ?_; intro u1 hu1 K hK; simp only [Act.put, List.setIfInBounds_toArray, List.set_cons_succ, List.set_cons_zero, List.getElem?_toArray, List.getElem?_cons_succ, List.getElem?_cons_zero, Option.bind_some]; refine hK _ ?_; clear hK K; (repeat (first | (refine pl_plain rfl rfl ?_; intro K hK; go_big_quiet_op; go_big_quiet_on) | (refine pl_nilCheck rfl rfl rfl ?_; intro K hK; simp only [Act.put, List.setIfInBounds_toArray, List.set_cons_succ, List.set_cons_zero]; go_big_quiet_on))); refine pl_nil ?_; rintro w1 he1 ⟨_, hf1⟩
      obtain ⟨g1, rfl, hg⟩ := hf1
      obtain ⟨d2, rfl⟩ := he1
      go_wp2; refine only_normal ?_
      go_wp2
      (refine bodyPost_ret (v := ?_) (by simp [results, Try.results22, go_sem]; rfl) rfl ?_)
      refine ⟨none, 0, _, rfl, ?_, .inl rfl, repG_one hg⟩
      (repeat (first | exact Ext.refl _ | assumption | refine Ext.alloc ?_ _ | refine Ext.ext ?_ _ | refine Ext.drew ?_))
  · have hk : (r.State == 2) = false := by simpa using h2
    by_cases h01 : r.State = 0 ∨ r.State = 1
    · have hw : win r = ({ r with State := 3 }, []) := by simp [win, h2, h01]
      rw [hw]
      clear hw h2
      by_cases h0 : r.State = 0
      · have hk0 : (r.State == 0) = true := by simpa using h0
        clear h0 h01
        go_enter Try.func22, Try.ntmps22
        go_wp2_with fail
        refine (hcl.out _ (hr.ext (by (repeat (first | exact Ext.refl _ | assumption | refine Ext.alloc ?_ _ | refine Ext.ext ?_ _ | refine Ext.drew ?_))))).mono ?_
        rintro e w1 ⟨a1, c1, rfl, ⟨d1, rfl⟩, hown⟩
        have hrz : ∀ (st z : Array Value), RepT (((w.alloc (.cells st 26)).alloc (.cells z 26)).ext d1) a1 r.Ts := fun st z => (hown.like (S := fun k => k < w.heap.size + 2) (by (repeat (first | exact Like.refl _ _ | refine Like.ext ?_ _ | refine Like.alloc ?_ _ | refine Like.swap ?_ (by simp <;> omega) _ _))) (by simp)).rep
        replace hrz := Lib.hid hrz
        clear hown
        go_wp2
        (refine bodyPost_ret (v := ?_) (by simp [results, Try.results22, go_sem]; rfl) rfl ?_)
        refine ⟨a1, c1, _, rfl, ?_, hrz.out _ _, .inl ⟨rfl, _, _, rfl⟩⟩
        (repeat (first | exact Ext.refl _ | assumption | refine Ext.alloc ?_ _ | refine Ext.ext ?_ _ | refine Ext.drew ?_))
      · have hk0 : (r.State == 0) = false := by simpa using h0
        have hk1 : (r.State == 1) = true := by simp; omega
        clear h0 h01
        go_enter Try.func22, Try.ntmps22
        go_wp2_with fail
        refine (hcl.out _ (hr.ext (by (repeat (first | exact Ext.refl _ | assumption | refine Ext.alloc ?_ _ | refine Ext.ext ?_ _ | refine Ext.drew ?_))))).mono ?_
        rintro e w1 ⟨a1, c1, rfl, ⟨d1, rfl⟩, hown⟩
        have hrz : ∀ (st z : Array Value), RepT (((w.alloc (.cells st 26)).alloc (.cells z 26)).ext d1) a1 r.Ts := fun st z => (hown.like (S := fun k => k < w.heap.size + 2) (by (repeat (first | exact Like.refl _ _ | refine Like.ext ?_ _ | refine Like.alloc ?_ _ | refine Like.swap ?_ (by simp <;> omega) _ _))) (by simp)).rep
        replace hrz := Lib.hid hrz
        clear hown
        go_wp2
        (refine bodyPost_ret (v := ?_) (by simp [results, Try.results22, go_sem]; rfl) rfl ?_)
        refine ⟨a1, c1, _, rfl, ?_, hrz.out _ _, .inl ⟨rfl, _, _, rfl⟩⟩
        (repeat (first | exact Ext.refl _ | assumption | refine Ext.alloc ?_ _ | refine Ext.ext ?_ _ | refine Ext.drew ?_))
    · have hw : win r = (r, []) := by simp [win, h2, h01]
      rw [hw]
      have hk0 : (r.State == 0) = false := by simp; omega
      have hk1 : (r.State == 1) = false := by simp; omega
      clear hw h2 h01
      go_enter Try.func22, Try.ntmps22
      go_wp2_with fail
      refine (hcl.out _ (hr.ext (by (repeat (first | exact Ext.refl _ | assumption | refine Ext.alloc ?_ _ | refine Ext.ext ?_ _ | refine Ext.drew ?_))))).mono ?_
      rintro e w1 ⟨a1, c1, rfl, ⟨d1, rfl⟩, hown⟩
      have hrz : ∀ (st z : Array Value), RepT (((w.alloc (.cells st 26)).alloc (.cells z 26)).ext d1) a1 r.Ts := fun st z => (hown.like (S := fun k => k < w.heap.size + 2) (by (repeat (first | exact Like.refl _ _ | refine Like.ext ?_ _ | refine Like.alloc ?_ _ | refine Like.swap ?_ (by simp <;> omega) _ _))) (by simp)).rep
      replace hrz := Lib.hid hrz
      clear hown
      go_wp2
      (refine bodyPost_ret (v := ?_) (by simp [results, Try.results22, go_sem]; rfl) rfl ?_)
      refine ⟨a1, c1, _, rfl, ?_, hrz.out _ _, .inl ⟨rfl, _, _, rfl⟩⟩
      (repeat (first | exact Ext.refl _ | assumption | refine Ext.alloc ?_ _ | refine Ext.ext ?_ _ | refine Ext.drew ?_))
end Go.Proofs.Ytendgmnbnnkpnaa.G
