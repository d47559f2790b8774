/- The laws over the plain functions: StyleOrders. Printed by spo.py. -/
import Derived.Test.YtojkihhnioeggaaDoorSoD
import Derived.WalkKit
import Derived.WalkSpells
import Derived.WalkLawsBesides
import Derived.Deep.QuietTactic
import Derived.BigQuiet
import Derived.BigRegion
import Derived.Lib.Hide
import Derived.Deep.RegionWith
set_option linter.unusedSimpArgs false
set_option linter.unusedVariables false
set_option linter.unusedSimpArgs false
set_option linter.unusedVariables false
namespace Go.Proofs.YtojkihhnioeggaaDoor.S
open Go Go.Bm
theorem tot_J16 {β : Type} {j : List Int → Int → Int → ByteArray → Int → Int → ByteArray → List GDecl → Int → ByteArray → Int → Int → ByteArray → List GDecl → Int → Int → Option β} {b : (List Int → Int → Int → ByteArray → Int → Int → ByteArray → List GDecl → Int → ByteArray → Int → Int → ByteArray → List GDecl → Int → Int → Option β) → Option β} (R : List Int → Int → Int → ByteArray → Int → Int → ByteArray → List GDecl → Int → ByteArray → Int → Int → ByteArray → List GDecl → Int → Int → Prop) {Q : β → Prop} (hj : ∀ a0 a1 a2 a3 a4 a5 a6 a7 a8 a9 a10 a11 a12 a13 a14 a15, R a0 a1 a2 a3 a4 a5 a6 a7 a8 a9 a10 a11 a12 a13 a14 a15 → Tot (j a0 a1 a2 a3 a4 a5 a6 a7 a8 a9 a10 a11 a12 a13 a14 a15) Q) (hb : ∀ j', (∀ a0 a1 a2 a3 a4 a5 a6 a7 a8 a9 a10 a11 a12 a13 a14 a15, R a0 a1 a2 a3 a4 a5 a6 a7 a8 a9 a10 a11 a12 a13 a14 a15 → Tot (j' a0 a1 a2 a3 a4 a5 a6 a7 a8 a9 a10 a11 a12 a13 a14 a15) Q) → Tot (b j') Q) : Tot (withJ j b) Q := hb j hj
def oRule (i : Int) (b1 b2 b3 b4 b5 : Bool) : GRule := GRule.mk (cond b1 11 0) (cond b2 (⟨#[120]⟩ : ByteArray) (⟨#[]⟩ : ByteArray)) (cond b3 16 0) (cond b4 10 0) (cond b5 (⟨#[116, 111, 112]⟩ : ByteArray) (⟨#[]⟩ : ByteArray)) [(GDecl.mk 10 0 (10 + i) (⟨#[]⟩ : ByteArray))]
def oN (b1 b2 b3 : Bool) : Int := cond b1 1 0 + cond b2 1 0 + cond b3 1 0
set_option maxHeartbeats 4000000 in
theorem ord_0 (j3 : Int → ByteArray → Int → Int → ByteArray → List GDecl → Int → ByteArray → Int → Int → ByteArray → List GDecl → Int → Int → Int → Int → Option Bool) (y2 : GTree × Int) {Q : Bool → Prop} (n : Nat) (L : List Int) (A : Int) (h : SrcOk ⟨L, A⟩) (k : Int) (c : ByteArray) (s : Int) (u : Int) (w : ByteArray) (d : List GDecl) (f : Int) (g : Int) (hk : ∀ (b1 b2 b3 b4 b5 : Bool) L A, SrcOk ⟨L, A⟩ → Tot (law17_StyleOrders_L0 j3 y2 n 1 L A (cond b1 11 0) (cond b2 (⟨#[120]⟩ : ByteArray) (⟨#[]⟩ : ByteArray)) (cond b3 16 0) (cond b4 10 0) (cond b5 (⟨#[116, 111, 112]⟩ : ByteArray) (⟨#[]⟩ : ByteArray)) [(GDecl.mk 10 0 (10 + 0) (⟨#[]⟩ : ByteArray))] k c s u w d (oN b2 b3 b5) f (oN b1 b4 false) g) Q) : Tot (law17_StyleOrders_L0 j3 y2 (n + 1) 0 L A 0 (⟨#[]⟩ : ByteArray) 0 0 (⟨#[]⟩ : ByteArray) ([] : List GDecl) k c s u w d 0 f 0 g) Q := by
  rw [law17_StyleOrders_L0]
  refine tot_ite (fun _ => ?_) fun hc => by simp at hc
  refine tot_J16 (fun a0 a1 a2 a3 a4 a5 a6 a7 a8 a9 a10 a11 a12 a13 a14 a15 => SrcOk ⟨a0, a1⟩ ∧ ∃ b1 : Bool, ((cond b1 11 0), (⟨#[]⟩ : ByteArray), 0, 0, (⟨#[]⟩ : ByteArray), ([] : List GDecl), k, c, s, u, w, d, (oN b1 false false), g) = (a2, a3, a4, a5, a6, a7, a8, a9, a10, a11, a12, a13, a14, a15)) (fun a0 a1 a2 a3 a4 a5 a6 a7 a8 a9 a10 a11 a12 a13 a14 a15 ⟨h1, b1, e⟩ => ?_) fun j hj => ?_
  rotate_left
  · have hj' := fun (b1 : Bool) a0 a1 a2 a3 a4 a5 a6 a7 a8 a9 a10 a11 a12 a13 a14 a15 (h : SrcOk ⟨a0, a1⟩) e => hj a0 a1 a2 a3 a4 a5 a6 a7 a8 a9 a10 a11 a12 a13 a14 a15 ⟨h, b1, e⟩
    refine tot_bind (src_N n h (by decide)) fun y ⟨_, _, c⟩ => tot_ite (fun _ => ?_) fun _ => hj' false _ _ _ _ _ _ _ _ _ _ _ _ _ _ _ _ c (by skip <;> rfl)
    refine tot_bind (P := fun k => k = 0) ⟨_, rfl, rfl⟩ fun k hk => ?_
    subst hk
    refine tot_bind (P := fun x => x = GRule.mk 0 (⟨#[]⟩ : ByteArray) 0 0 (⟨#[]⟩ : ByteArray) ([] : List GDecl)) ⟨_, rfl, rfl⟩ fun x hx => ?_
    subst hx
    refine tot_bind (P := fun k => k = 0) ⟨_, rfl, rfl⟩ fun k hk => ?_
    subst hk
    refine tot_bind (P := fun x => x = 0) ⟨_, rfl, rfl⟩ fun x hx => ?_
    subst hx
    refine tot_bind (P := fun k => k = 0) ⟨_, rfl, rfl⟩ fun k hk => ?_
    subst hk
    exact hj' true _ _ _ _ _ _ _ _ _ _ _ _ _ _ _ _ c (by skip <;> rfl)
  simp only [Prod.mk.injEq] at e
  obtain ⟨rfl, rfl, rfl, rfl, rfl, rfl, rfl, rfl, rfl, rfl, rfl, rfl, rfl, rfl⟩ := e
  refine tot_J16 (fun a0 a1 a2 a3 a4 a5 a6 a7 a8 a9 a10 a11 a12 a13 a14 a15 => SrcOk ⟨a0, a1⟩ ∧ ∃ b2 : Bool, ((cond b1 11 0), (cond b2 (⟨#[120]⟩ : ByteArray) (⟨#[]⟩ : ByteArray)), 0, 0, (⟨#[]⟩ : ByteArray), ([] : List GDecl), k, c, s, u, w, d, (oN b2 false false), f) = (a2, a3, a4, a5, a6, a7, a8, a9, a10, a11, a12, a13, a14, a15)) (fun a0 a1 a2 a3 a4 a5 a6 a7 a8 a9 a10 a11 a12 a13 a14 a15 ⟨h2, b2, e⟩ => ?_) fun j hj => ?_
  rotate_left
  · have hj' := fun (b2 : Bool) a0 a1 a2 a3 a4 a5 a6 a7 a8 a9 a10 a11 a12 a13 a14 a15 (h : SrcOk ⟨a0, a1⟩) e => hj a0 a1 a2 a3 a4 a5 a6 a7 a8 a9 a10 a11 a12 a13 a14 a15 ⟨h, b2, e⟩
    refine tot_bind (src_N n h1 (by decide)) fun y ⟨_, _, c⟩ => tot_ite (fun _ => ?_) fun _ => hj' false _ _ _ _ _ _ _ _ _ _ _ _ _ _ _ _ c (by cases b1 <;> rfl)
    refine tot_bind (P := fun k => k = 0) ⟨_, rfl, rfl⟩ fun k hk => ?_
    subst hk
    refine tot_bind (P := fun x => x = GRule.mk (cond b1 11 0) (⟨#[]⟩ : ByteArray) 0 0 (⟨#[]⟩ : ByteArray) ([] : List GDecl)) ⟨_, rfl, rfl⟩ fun x hx => ?_
    subst hx
    refine tot_bind (P := fun k => k = 0) ⟨_, rfl, rfl⟩ fun k hk => ?_
    subst hk
    refine tot_bind (P := fun x => x = 0) ⟨_, rfl, rfl⟩ fun x hx => ?_
    subst hx
    refine tot_bind (P := fun k => k = 0) ⟨_, rfl, rfl⟩ fun k hk => ?_
    subst hk
    exact hj' true _ _ _ _ _ _ _ _ _ _ _ _ _ _ _ _ c (by cases b1 <;> rfl)
  simp only [Prod.mk.injEq] at e
  obtain ⟨rfl, rfl, rfl, rfl, rfl, rfl, rfl, rfl, rfl, rfl, rfl, rfl, rfl, rfl⟩ := e
  refine tot_J16 (fun a0 a1 a2 a3 a4 a5 a6 a7 a8 a9 a10 a11 a12 a13 a14 a15 => SrcOk ⟨a0, a1⟩ ∧ ∃ b3 : Bool, ((cond b1 11 0), (cond b2 (⟨#[120]⟩ : ByteArray) (⟨#[]⟩ : ByteArray)), (cond b3 16 0), 0, (⟨#[]⟩ : ByteArray), ([] : List GDecl), k, c, s, u, w, d, (oN b2 b3 false), f) = (a2, a3, a4, a5, a6, a7, a8, a9, a10, a11, a12, a13, a14, a15)) (fun a0 a1 a2 a3 a4 a5 a6 a7 a8 a9 a10 a11 a12 a13 a14 a15 ⟨h3, b3, e⟩ => ?_) fun j hj => ?_
  rotate_left
  · have hj' := fun (b3 : Bool) a0 a1 a2 a3 a4 a5 a6 a7 a8 a9 a10 a11 a12 a13 a14 a15 (h : SrcOk ⟨a0, a1⟩) e => hj a0 a1 a2 a3 a4 a5 a6 a7 a8 a9 a10 a11 a12 a13 a14 a15 ⟨h, b3, e⟩
    refine tot_bind (src_N n h2 (by decide)) fun y ⟨_, _, c⟩ => tot_ite (fun _ => ?_) fun _ => hj' false _ _ _ _ _ _ _ _ _ _ _ _ _ _ _ _ c (by cases b1 <;> cases b2 <;> rfl)
    refine tot_bind (P := fun k => k = 0) ⟨_, rfl, rfl⟩ fun k hk => ?_
    subst hk
    refine tot_bind (P := fun x => x = GRule.mk (cond b1 11 0) (cond b2 (⟨#[120]⟩ : ByteArray) (⟨#[]⟩ : ByteArray)) 0 0 (⟨#[]⟩ : ByteArray) ([] : List GDecl)) ⟨_, rfl, rfl⟩ fun x hx => ?_
    subst hx
    refine tot_bind (P := fun k => k = 0) ⟨_, rfl, rfl⟩ fun k hk => ?_
    subst hk
    refine tot_bind (P := fun x => x = (oN b2 false false)) ⟨_, rfl, rfl⟩ fun x hx => ?_
    subst hx
    refine tot_bind (P := fun k => k = 0) ⟨_, rfl, rfl⟩ fun k hk => ?_
    subst hk
    exact hj' true _ _ _ _ _ _ _ _ _ _ _ _ _ _ _ _ c (by cases b1 <;> cases b2 <;> rfl)
  simp only [Prod.mk.injEq] at e
  obtain ⟨rfl, rfl, rfl, rfl, rfl, rfl, rfl, rfl, rfl, rfl, rfl, rfl, rfl, rfl⟩ := e
  refine tot_J16 (fun a0 a1 a2 a3 a4 a5 a6 a7 a8 a9 a10 a11 a12 a13 a14 a15 => SrcOk ⟨a0, a1⟩ ∧ ∃ b4 : Bool, ((cond b1 11 0), (cond b2 (⟨#[120]⟩ : ByteArray) (⟨#[]⟩ : ByteArray)), (cond b3 16 0), (cond b4 10 0), (⟨#[]⟩ : ByteArray), ([] : List GDecl), k, c, s, u, w, d, (oN b1 b4 false), g) = (a2, a3, a4, a5, a6, a7, a8, a9, a10, a11, a12, a13, a14, a15)) (fun a0 a1 a2 a3 a4 a5 a6 a7 a8 a9 a10 a11 a12 a13 a14 a15 ⟨h4, b4, e⟩ => ?_) fun j hj => ?_
  rotate_left
  · have hj' := fun (b4 : Bool) a0 a1 a2 a3 a4 a5 a6 a7 a8 a9 a10 a11 a12 a13 a14 a15 (h : SrcOk ⟨a0, a1⟩) e => hj a0 a1 a2 a3 a4 a5 a6 a7 a8 a9 a10 a11 a12 a13 a14 a15 ⟨h, b4, e⟩
    refine tot_bind (src_N n h3 (by decide)) fun y ⟨_, _, c⟩ => tot_ite (fun _ => ?_) fun _ => hj' false _ _ _ _ _ _ _ _ _ _ _ _ _ _ _ _ c (by cases b1 <;> cases b2 <;> cases b3 <;> rfl)
    refine tot_bind (P := fun k => k = 0) ⟨_, rfl, rfl⟩ fun k hk => ?_
    subst hk
    refine tot_bind (P := fun x => x = GRule.mk (cond b1 11 0) (cond b2 (⟨#[120]⟩ : ByteArray) (⟨#[]⟩ : ByteArray)) (cond b3 16 0) 0 (⟨#[]⟩ : ByteArray) ([] : List GDecl)) ⟨_, rfl, rfl⟩ fun x hx => ?_
    subst hx
    refine tot_bind (P := fun k => k = 0) ⟨_, rfl, rfl⟩ fun k hk => ?_
    subst hk
    refine tot_bind (P := fun x => x = (oN b1 false false)) ⟨_, rfl, rfl⟩ fun x hx => ?_
    subst hx
    refine tot_bind (P := fun k => k = 0) ⟨_, rfl, rfl⟩ fun k hk => ?_
    subst hk
    exact hj' true _ _ _ _ _ _ _ _ _ _ _ _ _ _ _ _ c (by cases b1 <;> cases b2 <;> cases b3 <;> rfl)
  simp only [Prod.mk.injEq] at e
  obtain ⟨rfl, rfl, rfl, rfl, rfl, rfl, rfl, rfl, rfl, rfl, rfl, rfl, rfl, rfl⟩ := e
  refine tot_J16 (fun a0 a1 a2 a3 a4 a5 a6 a7 a8 a9 a10 a11 a12 a13 a14 a15 => SrcOk ⟨a0, a1⟩ ∧ ∃ b5 : Bool, ((cond b1 11 0), (cond b2 (⟨#[120]⟩ : ByteArray) (⟨#[]⟩ : ByteArray)), (cond b3 16 0), (cond b4 10 0), (cond b5 (⟨#[116, 111, 112]⟩ : ByteArray) (⟨#[]⟩ : ByteArray)), ([] : List GDecl), k, c, s, u, w, d, (oN b2 b3 b5), f) = (a2, a3, a4, a5, a6, a7, a8, a9, a10, a11, a12, a13, a14, a15)) (fun a0 a1 a2 a3 a4 a5 a6 a7 a8 a9 a10 a11 a12 a13 a14 a15 ⟨h5, b5, e⟩ => ?_) fun j hj => ?_
  rotate_left
  · have hj' := fun (b5 : Bool) a0 a1 a2 a3 a4 a5 a6 a7 a8 a9 a10 a11 a12 a13 a14 a15 (h : SrcOk ⟨a0, a1⟩) e => hj a0 a1 a2 a3 a4 a5 a6 a7 a8 a9 a10 a11 a12 a13 a14 a15 ⟨h, b5, e⟩
    refine tot_bind (src_N n h4 (by decide)) fun y ⟨_, _, c⟩ => tot_ite (fun _ => ?_) fun _ => hj' false _ _ _ _ _ _ _ _ _ _ _ _ _ _ _ _ c (by cases b1 <;> cases b2 <;> cases b3 <;> cases b4 <;> rfl)
    refine tot_bind (P := fun k => k = 0) ⟨_, rfl, rfl⟩ fun k hk => ?_
    subst hk
    refine tot_bind (P := fun x => x = GRule.mk (cond b1 11 0) (cond b2 (⟨#[120]⟩ : ByteArray) (⟨#[]⟩ : ByteArray)) (cond b3 16 0) (cond b4 10 0) (⟨#[]⟩ : ByteArray) ([] : List GDecl)) ⟨_, rfl, rfl⟩ fun x hx => ?_
    subst hx
    refine tot_bind (P := fun k => k = 0) ⟨_, rfl, rfl⟩ fun k hk => ?_
    subst hk
    refine tot_bind (P := fun x => x = (oN b2 b3 false)) ⟨_, rfl, rfl⟩ fun x hx => ?_
    subst hx
    refine tot_bind (P := fun k => k = 0) ⟨_, rfl, rfl⟩ fun k hk => ?_
    subst hk
    exact hj' true _ _ _ _ _ _ _ _ _ _ _ _ _ _ _ _ c (by cases b1 <;> cases b2 <;> cases b3 <;> cases b4 <;> rfl)
  simp only [Prod.mk.injEq] at e
  obtain ⟨rfl, rfl, rfl, rfl, rfl, rfl, rfl, rfl, rfl, rfl, rfl, rfl, rfl, rfl⟩ := e
  refine tot_bind (P := fun k => k = 0) ⟨_, rfl, rfl⟩ fun k hk => ?_
  subst hk
  refine tot_bind (P := fun x => x = GRule.mk (cond b1 11 0) (cond b2 (⟨#[120]⟩ : ByteArray) (⟨#[]⟩ : ByteArray)) (cond b3 16 0) (cond b4 10 0) (cond b5 (⟨#[116, 111, 112]⟩ : ByteArray) (⟨#[]⟩ : ByteArray)) ([] : List GDecl)) ⟨_, rfl, rfl⟩ fun x hx => ?_
  subst hx
  exact hk b1 b2 b3 b4 b5 _ _ h5
set_option maxHeartbeats 4000000 in
theorem ord_1 (j3 : Int → ByteArray → Int → Int → ByteArray → List GDecl → Int → ByteArray → Int → Int → ByteArray → List GDecl → Int → Int → Int → Int → Option Bool) (y2 : GTree × Int) {Q : Bool → Prop} (n : Nat) (L : List Int) (A : Int) (h : SrcOk ⟨L, A⟩) (k : Int) (c : ByteArray) (s : Int) (u : Int) (w : ByteArray) (d : List GDecl) (f : Int) (g : Int) (hk : ∀ (b1 b2 b3 b4 b5 : Bool) L A, SrcOk ⟨L, A⟩ → Tot (law17_StyleOrders_L0 j3 y2 n 2 L A k c s u w d (cond b1 11 0) (cond b2 (⟨#[120]⟩ : ByteArray) (⟨#[]⟩ : ByteArray)) (cond b3 16 0) (cond b4 10 0) (cond b5 (⟨#[116, 111, 112]⟩ : ByteArray) (⟨#[]⟩ : ByteArray)) [(GDecl.mk 10 0 (10 + 1) (⟨#[]⟩ : ByteArray))] f (oN b2 b3 b5) g (oN b1 b4 false)) Q) : Tot (law17_StyleOrders_L0 j3 y2 (n + 1) 1 L A k c s u w d 0 (⟨#[]⟩ : ByteArray) 0 0 (⟨#[]⟩ : ByteArray) ([] : List GDecl) f 0 g 0) Q := by
  rw [law17_StyleOrders_L0]
  refine tot_ite (fun _ => ?_) fun hc => by simp at hc
  refine tot_J16 (fun a0 a1 a2 a3 a4 a5 a6 a7 a8 a9 a10 a11 a12 a13 a14 a15 => SrcOk ⟨a0, a1⟩ ∧ ∃ b1 : Bool, (k, c, s, u, w, d, (cond b1 11 0), (⟨#[]⟩ : ByteArray), 0, 0, (⟨#[]⟩ : ByteArray), ([] : List GDecl), g, (oN b1 false false)) = (a2, a3, a4, a5, a6, a7, a8, a9, a10, a11, a12, a13, a14, a15)) (fun a0 a1 a2 a3 a4 a5 a6 a7 a8 a9 a10 a11 a12 a13 a14 a15 ⟨h1, b1, e⟩ => ?_) fun j hj => ?_
  rotate_left
  · have hj' := fun (b1 : Bool) a0 a1 a2 a3 a4 a5 a6 a7 a8 a9 a10 a11 a12 a13 a14 a15 (h : SrcOk ⟨a0, a1⟩) e => hj a0 a1 a2 a3 a4 a5 a6 a7 a8 a9 a10 a11 a12 a13 a14 a15 ⟨h, b1, e⟩
    refine tot_bind (src_N n h (by decide)) fun y ⟨_, _, c⟩ => tot_ite (fun _ => ?_) fun _ => hj' false _ _ _ _ _ _ _ _ _ _ _ _ _ _ _ _ c (by skip <;> rfl)
    refine tot_bind (P := fun k => k = 1) ⟨_, rfl, rfl⟩ fun k hk => ?_
    subst hk
    refine tot_bind (P := fun x => x = GRule.mk 0 (⟨#[]⟩ : ByteArray) 0 0 (⟨#[]⟩ : ByteArray) ([] : List GDecl)) ⟨_, rfl, rfl⟩ fun x hx => ?_
    subst hx
    refine tot_bind (P := fun k => k = 1) ⟨_, rfl, rfl⟩ fun k hk => ?_
    subst hk
    refine tot_bind (P := fun x => x = 0) ⟨_, rfl, rfl⟩ fun x hx => ?_
    subst hx
    refine tot_bind (P := fun k => k = 1) ⟨_, rfl, rfl⟩ fun k hk => ?_
    subst hk
    exact hj' true _ _ _ _ _ _ _ _ _ _ _ _ _ _ _ _ c (by skip <;> rfl)
  simp only [Prod.mk.injEq] at e
  obtain ⟨rfl, rfl, rfl, rfl, rfl, rfl, rfl, rfl, rfl, rfl, rfl, rfl, rfl, rfl⟩ := e
  refine tot_J16 (fun a0 a1 a2 a3 a4 a5 a6 a7 a8 a9 a10 a11 a12 a13 a14 a15 => SrcOk ⟨a0, a1⟩ ∧ ∃ b2 : Bool, (k, c, s, u, w, d, (cond b1 11 0), (cond b2 (⟨#[120]⟩ : ByteArray) (⟨#[]⟩ : ByteArray)), 0, 0, (⟨#[]⟩ : ByteArray), ([] : List GDecl), f, (oN b2 false false)) = (a2, a3, a4, a5, a6, a7, a8, a9, a10, a11, a12, a13, a14, a15)) (fun a0 a1 a2 a3 a4 a5 a6 a7 a8 a9 a10 a11 a12 a13 a14 a15 ⟨h2, b2, e⟩ => ?_) fun j hj => ?_
  rotate_left
  · have hj' := fun (b2 : Bool) a0 a1 a2 a3 a4 a5 a6 a7 a8 a9 a10 a11 a12 a13 a14 a15 (h : SrcOk ⟨a0, a1⟩) e => hj a0 a1 a2 a3 a4 a5 a6 a7 a8 a9 a10 a11 a12 a13 a14 a15 ⟨h, b2, e⟩
    refine tot_bind (src_N n h1 (by decide)) fun y ⟨_, _, c⟩ => tot_ite (fun _ => ?_) fun _ => hj' false _ _ _ _ _ _ _ _ _ _ _ _ _ _ _ _ c (by cases b1 <;> rfl)
    refine tot_bind (P := fun k => k = 1) ⟨_, rfl, rfl⟩ fun k hk => ?_
    subst hk
    refine tot_bind (P := fun x => x = GRule.mk (cond b1 11 0) (⟨#[]⟩ : ByteArray) 0 0 (⟨#[]⟩ : ByteArray) ([] : List GDecl)) ⟨_, rfl, rfl⟩ fun x hx => ?_
    subst hx
    refine tot_bind (P := fun k => k = 1) ⟨_, rfl, rfl⟩ fun k hk => ?_
    subst hk
    refine tot_bind (P := fun x => x = 0) ⟨_, rfl, rfl⟩ fun x hx => ?_
    subst hx
    refine tot_bind (P := fun k => k = 1) ⟨_, rfl, rfl⟩ fun k hk => ?_
    subst hk
    exact hj' true _ _ _ _ _ _ _ _ _ _ _ _ _ _ _ _ c (by cases b1 <;> rfl)
  simp only [Prod.mk.injEq] at e
  obtain ⟨rfl, rfl, rfl, rfl, rfl, rfl, rfl, rfl, rfl, rfl, rfl, rfl, rfl, rfl⟩ := e
  refine tot_J16 (fun a0 a1 a2 a3 a4 a5 a6 a7 a8 a9 a10 a11 a12 a13 a14 a15 => SrcOk ⟨a0, a1⟩ ∧ ∃ b3 : Bool, (k, c, s, u, w, d, (cond b1 11 0), (cond b2 (⟨#[120]⟩ : ByteArray) (⟨#[]⟩ : ByteArray)), (cond b3 16 0), 0, (⟨#[]⟩ : ByteArray), ([] : List GDecl), f, (oN b2 b3 false)) = (a2, a3, a4, a5, a6, a7, a8, a9, a10, a11, a12, a13, a14, a15)) (fun a0 a1 a2 a3 a4 a5 a6 a7 a8 a9 a10 a11 a12 a13 a14 a15 ⟨h3, b3, e⟩ => ?_) fun j hj => ?_
  rotate_left
  · have hj' := fun (b3 : Bool) a0 a1 a2 a3 a4 a5 a6 a7 a8 a9 a10 a11 a12 a13 a14 a15 (h : SrcOk ⟨a0, a1⟩) e => hj a0 a1 a2 a3 a4 a5 a6 a7 a8 a9 a10 a11 a12 a13 a14 a15 ⟨h, b3, e⟩
    refine tot_bind (src_N n h2 (by decide)) fun y ⟨_, _, c⟩ => tot_ite (fun _ => ?_) fun _ => hj' false _ _ _ _ _ _ _ _ _ _ _ _ _ _ _ _ c (by cases b1 <;> cases b2 <;> rfl)
    refine tot_bind (P := fun k => k = 1) ⟨_, rfl, rfl⟩ fun k hk => ?_
    subst hk
    refine tot_bind (P := fun x => x = GRule.mk (cond b1 11 0) (cond b2 (⟨#[120]⟩ : ByteArray) (⟨#[]⟩ : ByteArray)) 0 0 (⟨#[]⟩ : ByteArray) ([] : List GDecl)) ⟨_, rfl, rfl⟩ fun x hx => ?_
    subst hx
    refine tot_bind (P := fun k => k = 1) ⟨_, rfl, rfl⟩ fun k hk => ?_
    subst hk
    refine tot_bind (P := fun x => x = (oN b2 false false)) ⟨_, rfl, rfl⟩ fun x hx => ?_
    subst hx
    refine tot_bind (P := fun k => k = 1) ⟨_, rfl, rfl⟩ fun k hk => ?_
    subst hk
    exact hj' true _ _ _ _ _ _ _ _ _ _ _ _ _ _ _ _ c (by cases b1 <;> cases b2 <;> rfl)
  simp only [Prod.mk.injEq] at e
  obtain ⟨rfl, rfl, rfl, rfl, rfl, rfl, rfl, rfl, rfl, rfl, rfl, rfl, rfl, rfl⟩ := e
  refine tot_J16 (fun a0 a1 a2 a3 a4 a5 a6 a7 a8 a9 a10 a11 a12 a13 a14 a15 => SrcOk ⟨a0, a1⟩ ∧ ∃ b4 : Bool, (k, c, s, u, w, d, (cond b1 11 0), (cond b2 (⟨#[120]⟩ : ByteArray) (⟨#[]⟩ : ByteArray)), (cond b3 16 0), (cond b4 10 0), (⟨#[]⟩ : ByteArray), ([] : List GDecl), g, (oN b1 b4 false)) = (a2, a3, a4, a5, a6, a7, a8, a9, a10, a11, a12, a13, a14, a15)) (fun a0 a1 a2 a3 a4 a5 a6 a7 a8 a9 a10 a11 a12 a13 a14 a15 ⟨h4, b4, e⟩ => ?_) fun j hj => ?_
  rotate_left
  · have hj' := fun (b4 : Bool) a0 a1 a2 a3 a4 a5 a6 a7 a8 a9 a10 a11 a12 a13 a14 a15 (h : SrcOk ⟨a0, a1⟩) e => hj a0 a1 a2 a3 a4 a5 a6 a7 a8 a9 a10 a11 a12 a13 a14 a15 ⟨h, b4, e⟩
    refine tot_bind (src_N n h3 (by decide)) fun y ⟨_, _, c⟩ => tot_ite (fun _ => ?_) fun _ => hj' false _ _ _ _ _ _ _ _ _ _ _ _ _ _ _ _ c (by cases b1 <;> cases b2 <;> cases b3 <;> rfl)
    refine tot_bind (P := fun k => k = 1) ⟨_, rfl, rfl⟩ fun k hk => ?_
    subst hk
    refine tot_bind (P := fun x => x = GRule.mk (cond b1 11 0) (cond b2 (⟨#[120]⟩ : ByteArray) (⟨#[]⟩ : ByteArray)) (cond b3 16 0) 0 (⟨#[]⟩ : ByteArray) ([] : List GDecl)) ⟨_, rfl, rfl⟩ fun x hx => ?_
    subst hx
    refine tot_bind (P := fun k => k = 1) ⟨_, rfl, rfl⟩ fun k hk => ?_
    subst hk
    refine tot_bind (P := fun x => x = (oN b1 false false)) ⟨_, rfl, rfl⟩ fun x hx => ?_
    subst hx
    refine tot_bind (P := fun k => k = 1) ⟨_, rfl, rfl⟩ fun k hk => ?_
    subst hk
    exact hj' true _ _ _ _ _ _ _ _ _ _ _ _ _ _ _ _ c (by cases b1 <;> cases b2 <;> cases b3 <;> rfl)
  simp only [Prod.mk.injEq] at e
  obtain ⟨rfl, rfl, rfl, rfl, rfl, rfl, rfl, rfl, rfl, rfl, rfl, rfl, rfl, rfl⟩ := e
  refine tot_J16 (fun a0 a1 a2 a3 a4 a5 a6 a7 a8 a9 a10 a11 a12 a13 a14 a15 => SrcOk ⟨a0, a1⟩ ∧ ∃ b5 : Bool, (k, c, s, u, w, d, (cond b1 11 0), (cond b2 (⟨#[120]⟩ : ByteArray) (⟨#[]⟩ : ByteArray)), (cond b3 16 0), (cond b4 10 0), (cond b5 (⟨#[116, 111, 112]⟩ : ByteArray) (⟨#[]⟩ : ByteArray)), ([] : List GDecl), f, (oN b2 b3 b5)) = (a2, a3, a4, a5, a6, a7, a8, a9, a10, a11, a12, a13, a14, a15)) (fun a0 a1 a2 a3 a4 a5 a6 a7 a8 a9 a10 a11 a12 a13 a14 a15 ⟨h5, b5, e⟩ => ?_) fun j hj => ?_
  rotate_left
  · have hj' := fun (b5 : Bool) a0 a1 a2 a3 a4 a5 a6 a7 a8 a9 a10 a11 a12 a13 a14 a15 (h : SrcOk ⟨a0, a1⟩) e => hj a0 a1 a2 a3 a4 a5 a6 a7 a8 a9 a10 a11 a12 a13 a14 a15 ⟨h, b5, e⟩
    refine tot_bind (src_N n h4 (by decide)) fun y ⟨_, _, c⟩ => tot_ite (fun _ => ?_) fun _ => hj' false _ _ _ _ _ _ _ _ _ _ _ _ _ _ _ _ c (by cases b1 <;> cases b2 <;> cases b3 <;> cases b4 <;> rfl)
    refine tot_bind (P := fun k => k = 1) ⟨_, rfl, rfl⟩ fun k hk => ?_
    subst hk
    refine tot_bind (P := fun x => x = GRule.mk (cond b1 11 0) (cond b2 (⟨#[120]⟩ : ByteArray) (⟨#[]⟩ : ByteArray)) (cond b3 16 0) (cond b4 10 0) (⟨#[]⟩ : ByteArray) ([] : List GDecl)) ⟨_, rfl, rfl⟩ fun x hx => ?_
    subst hx
    refine tot_bind (P := fun k => k = 1) ⟨_, rfl, rfl⟩ fun k hk => ?_
    subst hk
    refine tot_bind (P := fun x => x = (oN b2 b3 false)) ⟨_, rfl, rfl⟩ fun x hx => ?_
    subst hx
    refine tot_bind (P := fun k => k = 1) ⟨_, rfl, rfl⟩ fun k hk => ?_
    subst hk
    exact hj' true _ _ _ _ _ _ _ _ _ _ _ _ _ _ _ _ c (by cases b1 <;> cases b2 <;> cases b3 <;> cases b4 <;> rfl)
  simp only [Prod.mk.injEq] at e
  obtain ⟨rfl, rfl, rfl, rfl, rfl, rfl, rfl, rfl, rfl, rfl, rfl, rfl, rfl, rfl⟩ := e
  refine tot_bind (P := fun k => k = 1) ⟨_, rfl, rfl⟩ fun k hk => ?_
  subst hk
  refine tot_bind (P := fun x => x = GRule.mk (cond b1 11 0) (cond b2 (⟨#[120]⟩ : ByteArray) (⟨#[]⟩ : ByteArray)) (cond b3 16 0) (cond b4 10 0) (cond b5 (⟨#[116, 111, 112]⟩ : ByteArray) (⟨#[]⟩ : ByteArray)) ([] : List GDecl)) ⟨_, rfl, rfl⟩ fun x hx => ?_
  subst hx
  exact hk b1 b2 b3 b4 b5 _ _ h5
def ordT : GTree × Int := ((ref14_Build 60 (GView.mk 10 (⟨#[]⟩ : ByteArray) [(GAttr.mk (⟨#[99, 108, 97, 115, 115]⟩ : ByteArray) (GValue.mk 3 0 (⟨#[116, 111, 112]⟩ : ByteArray) ([] : List GValue)))] ([] : List GAction) [(GView.mk 11 (⟨#[]⟩ : ByteArray) [(GAttr.mk (⟨#[99, 108, 97, 115, 115]⟩ : ByteArray) (GValue.mk 3 0 (⟨#[120]⟩ : ByteArray) ([] : List GValue)))] ([] : List GAction) ([] : List GView))]) 1).getD default)
def allB (p : Bool → Bool) : Bool := p false && p true
theorem allB_spec {p : Bool → Bool} (h : allB p = true) (b : Bool) : p b = true := by
  unfold allB at h
  rw [Bool.and_eq_true] at h
  cases b
  · exact h.1
  · exact h.2
def oChk (n : Nat) (b1 b2 b3 b4 b5 c1 c2 c3 c4 c5 : Bool) : Bool := match style_Cascade n (GSheet.mk [oRule 0 b1 b2 b3 b4 b5, oRule 1 c1 c2 c3 c4 c5]) (GTheme.mk ([] : List GToken)) (GMode.mk false false 100) ordT.1 [(GNodeStates.mk 2 16)] with
  | some y => (y.2 == 0 && (List.length y.1 : Int) == 2) && (match idx y.1 1 with | some e => e.Style.x10 == (if ((decide (oN b2 b3 b5 > oN c2 c3 c5)) || ((oN b2 b3 b5 == oN c2 c3 c5) && (decide (oN b1 b4 false > oN c1 c4 false)))) = true then 10 else 11) | none => false)
  | none => false
set_option maxRecDepth 1000000 in
theorem ord_false_false : (allB fun b3 => allB fun b4 => allB fun b5 => allB fun c1 => allB fun c2 => allB fun c3 => allB fun c4 => allB fun c5 => oChk 200 false false b3 b4 b5 c1 c2 c3 c4 c5) = true := by kernel_rfl
set_option maxRecDepth 1000000 in
theorem ord_false_true : (allB fun b3 => allB fun b4 => allB fun b5 => allB fun c1 => allB fun c2 => allB fun c3 => allB fun c4 => allB fun c5 => oChk 200 false true b3 b4 b5 c1 c2 c3 c4 c5) = true := by kernel_rfl
set_option maxRecDepth 1000000 in
theorem ord_true_false : (allB fun b3 => allB fun b4 => allB fun b5 => allB fun c1 => allB fun c2 => allB fun c3 => allB fun c4 => allB fun c5 => oChk 200 true false b3 b4 b5 c1 c2 c3 c4 c5) = true := by kernel_rfl
set_option maxRecDepth 1000000 in
theorem ord_true_true : (allB fun b3 => allB fun b4 => allB fun b5 => allB fun c1 => allB fun c2 => allB fun c3 => allB fun c4 => allB fun c5 => oChk 200 true true b3 b4 b5 c1 c2 c3 c4 c5) = true := by kernel_rfl
theorem ord_all (b1 b2 b3 b4 b5 c1 c2 c3 c4 c5 : Bool) : oChk 200 b1 b2 b3 b4 b5 c1 c2 c3 c4 c5 = true := by
  have h : (allB fun b3 => allB fun b4 => allB fun b5 => allB fun c1 => allB fun c2 => allB fun c3 => allB fun c4 => allB fun c5 => oChk 200 b1 b2 b3 b4 b5 c1 c2 c3 c4 c5) = true := by
    cases b1 <;> cases b2
    · exact ord_false_false
    · exact ord_false_true
    · exact ord_true_false
    · exact ord_true_true
  exact allB_spec (allB_spec (allB_spec (allB_spec (allB_spec (allB_spec (allB_spec (allB_spec h b3) b4) b5) c1) c2) c3) c4) c5
set_option maxRecDepth 1000000 in
theorem ordT_eq : ref14_Build 200 (GView.mk 10 (⟨#[]⟩ : ByteArray) [(GAttr.mk (⟨#[99, 108, 97, 115, 115]⟩ : ByteArray) (GValue.mk 3 0 (⟨#[116, 111, 112]⟩ : ByteArray) ([] : List GValue)))] ([] : List GAction) [(GView.mk 11 (⟨#[]⟩ : ByteArray) [(GAttr.mk (⟨#[99, 108, 97, 115, 115]⟩ : ByteArray) (GValue.mk 3 0 (⟨#[120]⟩ : ByteArray) ([] : List GValue)))] ([] : List GAction) ([] : List GView))]) 1 = some ordT := by kernel_rfl
theorem orders_tot (l : List Int) : Tot (law17_StyleOrders 200 l) fun b => b = true := by
  unfold law17_StyleOrders
  refine tot_bind (src_New 200 l) fun y1 c1 => ?_
  rw [ordT_eq]
  refine tot_bind (P := fun y => y = ordT) (tot_some rfl) fun y2 hy2 => ?_
  subst hy2
  show Tot ((fun j3 => law17_StyleOrders_L0 j3 ordT 200 0 y1.L y1.At 0 (⟨#[]⟩ : ByteArray) 0 0 (⟨#[]⟩ : ByteArray) ([] : List GDecl) 0 (⟨#[]⟩ : ByteArray) 0 0 (⟨#[]⟩ : ByteArray) ([] : List GDecl) 0 0 0 0) _) _
  refine ord_0 _ _ 199 y1.L y1.At c1 _ _ _ _ _ _ _ _ fun b1 b2 b3 b4 b5 L A h => ?_
  refine ord_1 _ _ 198 L A h _ _ _ _ _ _ _ _ fun c1 c2 c3 c4 c5 L A h => ?_
  rw [law17_StyleOrders_L0]
  refine tot_ite (fun hc => by simp at hc) fun _ => ?_
  have key := ord_all b1 b2 b3 b4 b5 c1 c2 c3 c4 c5
  unfold oChk at key
  split at key
  · rename_i y hy
    split at key
    · rename_i e he
      simp only [Bool.and_eq_true, beq_iff_eq] at key
      obtain ⟨⟨k1, k2⟩, k3⟩ := key
      have fin : ∀ w : Int, e.Style.x10 = w → Tot ((style_Cascade 200 (GSheet.mk [oRule 0 b1 b2 b3 b4 b5, oRule 1 c1 c2 c3 c4 c5]) (GTheme.mk ([] : List GToken)) (GMode.mk false false 100) ordT.1 [(GNodeStates.mk 2 16)]).bind fun (y407 : ((List GStyled) × Int)) => (gd [((y407.2 == 0) && ((List.length y407.1 : Int) == 2))] (idx y407.1 1)).bind fun (e408 : GStyled) => (gd [(((y407.2 == 0) && ((List.length y407.1 : Int) == 2)) && (e408.Style.x10 == w))] (law17_awake 200)).bind fun (y409 : Bool) => some ((((y407.2 == 0) && ((List.length y407.1 : Int) == 2)) && (e408.Style.x10 == w)) && y409)) fun b => b = true := fun w hw => by
        rw [hy]
        simp only [Option.bind_some, k1, k2, he, hw, gd, List.all_cons, List.all_nil, id, beq_self_eq_true, Bool.and_self, if_true, awake_true2]
        exact tot_some rfl
      refine tot_ite (fun hw => ?_) fun hw => ?_
      · rw [if_pos hw] at k3
        exact fin 10 k3
      · rw [if_neg (by rw [hw]; simp)] at k3
        exact fin 11 k3
    · simp at key
  · cases key
theorem styleOrders_true (l : List Int) : law17_StyleOrders 200 l = some true := by
  obtain ⟨b, h, rfl⟩ := orders_tot l
  exact h
end Go.Proofs.YtojkihhnioeggaaDoor.S
