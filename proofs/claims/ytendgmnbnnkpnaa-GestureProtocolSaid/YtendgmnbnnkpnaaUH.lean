/- Contracts on whole recognisers: clone, once, moves, over. Win and Abort, walked. Abort, walked. -/
import Derived.Test.YtendgmnbnnkpnaaUG
import Derived.Test.YtendgmnbnnkpnaaUF
import Derived.WalkKit
import Derived.WalkSpells
import Derived.WalkLawsBesides
import Derived.Deep.QuietTactic
import Derived.BigQuiet
import Derived.BigRegion
import Derived.Lib.Hide
import Derived.Deep.RegionWith
set_option linter.unusedSimpArgs false
set_option linter.unusedVariables false
namespace Go.Proofs.Ytendgmnbnnkpnaa.G
open Go.RowKit

/-- a recogniser's cells -/
def recC (r : Rec) (a : Option Addr) (cap : Nat) : List Value := [.int .i64 r.Kind, .int .i64 r.Node, .int .i64 r.State, .int .i64 r.Count, .slice a r.Ts.length cap, .int .i64 r.L.X, .int .i64 r.L.Y, .int .i64 r.L.T]
theorem TsAt.one {w : World} {b off : Nat} {t : Tch} (h : TsAt w b off [t]) : ∃ sb so sc, TchAt w b off t sb so sc := by
  obtain ⟨sb, so, sc, h⟩ := h 0 t rfl
  exact ⟨sb, so, sc, by simpa using h⟩
theorem TsAt.two {w : World} {b off : Nat} {t u : Tch} (h : TsAt w b off [t, u]) : ∃ sb so sc ub uo uc, TchAt w b off t sb so sc ∧ TchAt w b (off + 5) u ub uo uc := by
  obtain ⟨sb, so, sc, h0⟩ := h 0 t rfl
  obtain ⟨ub, uo, uc, h1⟩ := h 1 u rfl
  exact ⟨sb, so, sc, ub, uo, uc, by simpa using h0, by simpa using h1⟩
theorem tch_of_row {w : World} {B g c n o : Nat} {xs : List Value} {t : Tch} {tg tc : Nat} (h : w.ownsRow B 64 5 (.slice (some ⟨g, 0, none⟩) n c) n xs) (ho : o + 5 ≤ n * 5) (hx : ∀ j, j < 5 → xs[o + j]? = (cellsTch t tg 0 tc)[j]?) (hs : OwnS w B tg tc t.S) : TchAt w g o t tg 0 tc := by
  have hc := fun j (hj : j < 5) => (h.cellAt (o + j) (by omega)).trans (hx j hj)
  exact ⟨hc 0 (by omega), hc 1 (by omega), hc 2 (by omega), hc 3 (by omega), hc 4 (by omega), ownS_at hs⟩
theorem OwnT.rep {w : World} {B : Nat} {a : Option Addr} {c : Nat} : ∀ {ts : List Tch}, OwnT w B (.slice a ts.length c) ts → RepT w a ts
  | [], _ => .inl rfl
  | [t], ⟨g, gc, h1, h2⟩ => by
    obtain ⟨bt, ct, hv⟩ := ownsRow_pos h1 (by decide)
    simp only [List.length_cons, List.length_nil, Value.slice.injEq] at hv
    obtain ⟨rfl, _, rfl⟩ := hv
    refine .inr ⟨bt, 0, rfl, fun i t' hi => ?_⟩
    have : i = 0 := by have := (List.getElem?_eq_some_iff.1 hi).1; simpa using this
    subst this
    obtain rfl : t = t' := by simpa using hi
    exact ⟨g, 0, gc, by simpa using tch_of_row (o := 0) h1 (by simp) (fun j hj => by rw [Nat.zero_add]) h2⟩
  | [t, u], ⟨g, gc, k, kc, _, h1, h2, h3⟩ => by
    obtain ⟨bt, ct, hv⟩ := ownsRow_pos h1 (by decide)
    simp only [List.length_cons, List.length_nil, Value.slice.injEq] at hv
    obtain ⟨rfl, _, rfl⟩ := hv
    refine .inr ⟨bt, 0, rfl, fun i t' hi => ?_⟩
    have : i = 0 ∨ i = 1 := by have := (List.getElem?_eq_some_iff.1 hi).1; simp at this; omega
    rcases this with rfl | rfl
    · obtain rfl : t = t' := by simpa using hi
      exact ⟨g, 0, gc, by simpa using tch_of_row (o := 0) h1 (by simp) (fun j hj => by rw [Nat.zero_add, List.getElem?_append_left (by simpa [cellsTch] using hj)]) h2⟩
    · obtain rfl : u = t' := by simpa using hi
      exact ⟨k, 0, kc, by simpa using tch_of_row (o := 5) h1 (by simp) (fun j hj => by rw [List.getElem?_append_right (by simp [cellsTch])]; simp [cellsTch]) h3⟩
  | _ :: _ :: _ :: _, h => h.elim
theorem room_le (k : Int) : room k ≤ 2 := by unfold room; split <;> omega
/-- by the number of touches -/
theorem ROk.shape {r : Rec} (h : ROk r) : r.Ts = [] ∨ (∃ t, r.Ts = [t] ∧ TOk t) ∨ ∃ t u, r.Ts = [t, u] ∧ TOk t ∧ TOk u ∧ r.Kind = 7 := by
  have hl := h.len
  have ht := h.ts
  match hts : r.Ts with
  | [] => exact .inl rfl
  | [t] => exact .inr (.inl ⟨t, rfl, ht t (by simp [hts])⟩)
  | [t, u] =>
    refine .inr (.inr ⟨t, u, rfl, ht t (by simp [hts]), ht u (by simp [hts]), ?_⟩)
    rw [hts] at hl
    by_cases h7 : r.Kind = 7
    · exact h7
    · simp [room, h7] at hl
  | t :: u :: v :: l =>
    rw [hts] at hl
    have := room_le r.Kind
    simp at hl
    omega

theorem clone_r (r : Rec) (h : ROk r) (a : Option Addr) (cap : Nat) (w : World) (hr : RepT w a r.Ts) :
    Calls Try.prog 32 #[.agg #[.int .i64 r.Kind, .int .i64 r.Node, .int .i64 r.State, .int .i64 r.Count, .slice a r.Ts.length cap, .int .i64 r.L.X, .int .i64 r.L.Y, .int .i64 r.L.T]] w fun e w' =>
      ∃ a' c', e = .returned (.agg #[.int .i64 r.Kind, .int .i64 r.Node, .int .i64 r.State, .int .i64 r.Count, .slice a' r.Ts.length c', .int .i64 r.L.X, .int .i64 r.L.Y, .int .i64 r.L.T]) ∧ Ext w w' ∧ OwnT w' w.heap.size (.slice a' r.Ts.length c') r.Ts := by
  rcases h.shape with ht | ⟨t, ht, h1⟩ | ⟨t, u, ht, h1, h2, _⟩
  · rw [ht]; exact clone0 _ _ _ _ _ _ _ a cap w
  · rw [ht] at hr ⊢
    rcases hr with hr | ⟨b, off, rfl, hr⟩
    · cases hr
    · obtain ⟨sb, so, sc, hm⟩ := hr.one
      exact clone1 _ _ _ _ _ _ _ b off cap t sb so sc w h1 hm
  · rw [ht] at hr ⊢
    rcases hr with hr | ⟨b, off, rfl, hr⟩
    · cases hr
    · obtain ⟨sb, so, sc, ub, uo, uc, hm, hmu⟩ := hr.two
      exact clone2 _ _ _ _ _ _ _ b off cap t u sb so sc ub uo uc w h1 h2 hm hmu
theorem once_r (r : Rec) (h : ROk r) (a : Option Addr) (cap : Nat) (w : World) (hr : RepT w a r.Ts) :
    Calls Try.prog 38 #[.agg #[.int .i64 r.Kind, .int .i64 r.Node, .int .i64 r.State, .int .i64 r.Count, .slice a r.Ts.length cap, .int .i64 r.L.X, .int .i64 r.L.Y, .int .i64 r.L.T]] w fun e w' =>
      e = .returned (gesV (onceG r)) ∧ Ext w w' := by
  by_cases hk : r.Kind = 8
  · rcases h.shape with ht | ⟨t, ht, h1⟩ | ⟨t, u, ht, h1, h2, h7⟩
    · rw [ht]
      have := once_bare r.Kind r.Node r.State r.Count r.L.X r.L.Y r.L.T cap a w
      simpa [onceG, gesV, ht] using this
    · rw [ht] at hr ⊢
      rcases hr with hr | ⟨b, off, rfl, hr⟩
      · cases hr
      · obtain ⟨sb, so, sc, hm⟩ := hr.one
        have := once_fling r.Node r.State r.Count r.L.X r.L.Y r.L.T 1 b off cap t sb so sc w (by omega) h1 hm
        simpa [onceG, gesV, ht, hk] using this
    · omega
  · have := once_plain r.Kind r.Node r.State r.Count r.L.X r.L.Y r.L.T r.Ts.length cap a w hk
    simpa [onceG, gesV, hk] using this
theorem moves_r (r : Rec) (h : ROk r) (hc : cont r.Kind = true) (hl : r.Ts.length = room r.Kind) (p : Int) (hp : p = 2 ∨ p = 3 ∨ p = 4 ∨ p = 5) (a : Option Addr) (cap : Nat) (w : World) (hr : RepT w a r.Ts) :
    Calls Try.prog 39 #[.agg #[.int .i64 r.Kind, .int .i64 r.Node, .int .i64 r.State, .int .i64 r.Count, .slice a r.Ts.length cap, .int .i64 r.L.X, .int .i64 r.L.Y, .int .i64 r.L.T], .int .i64 p] w fun e w' =>
      e = .returned (gesV (stageG r p)) ∧ Ext w w' := by
  have hk : 4 ≤ r.Kind ∧ r.Kind ≤ 7 := by simpa [cont, btw] using hc
  obtain ⟨k, n, s, c, ts, ⟨lx, ly, lt⟩⟩ := r
  simp only at *
  rcases h.shape with ht | ⟨t, ht, h1⟩ | ⟨t, u, ht, h1, h2, h7⟩
  · simp only at ht; subst ht; simp [room] at hl; split at hl <;> omega
  · simp only at ht; subst ht
    rcases hr with hr | ⟨b, off, rfl, hr⟩
    · cases hr
    · obtain ⟨sb, so, sc, hm⟩ := hr.one
      have h7 : k ≠ 7 := fun h7 => by simp [room, h7] at hl
      exact moves_drag k n s c lx ly lt p b off cap t sb so sc w (by omega) hp h1 hm
  · simp only at ht h7; subst ht; subst h7
    rcases hr with hr | ⟨b, off, rfl, hr⟩
    · cases hr
    · obtain ⟨sb, so, sc, ub, uo, uc, hm, hmu⟩ := hr.two
      exact moves_pinch n s c lx ly lt p b off cap t u sb so sc ub uo uc w h1 h2 hm hmu

set_option maxHeartbeats 400000 in
theorem over_any (k n s c lx ly lt : Int) (a : Option Addr) (len cap : Nat) (w : World) :
    Calls Try.prog 37 #[.agg #[.int .i64 k, .int .i64 n, .int .i64 s, .int .i64 c, .slice a len cap, .int .i64 lx, .int .i64 ly, .int .i64 lt]] w fun e w' =>
      e = .returned (.agg #[.int .i64 k, .int .i64 n, .int .i64 4, .int .i64 c, .slice none 0 0, .int .i64 lx, .int .i64 ly, .int .i64 lt]) ∧ Ext w w' := by
  go_enter Try.func37, Try.ntmps37
  go_wp2
  (refine bodyPost_ret (v := ?_) (by simp [results, Try.results37, go_sem]; rfl) rfl ?_)
  refine ⟨rfl, ?_⟩
  (repeat (first | exact Ext.refl _ | assumption | refine Ext.alloc ?_ _ | refine Ext.ext ?_ _ | refine Ext.drew ?_))
set_option maxHeartbeats 400000 in
theorem lose_any (k n s c lx ly lt : Int) (a : Option Addr) (len cap : Nat) (w : World) :
    Calls Try.prog 45 #[.agg #[.int .i64 k, .int .i64 n, .int .i64 s, .int .i64 c, .slice a len cap, .int .i64 lx, .int .i64 ly, .int .i64 lt]] w fun e w' =>
      e = .returned (.agg #[.int .i64 k, .int .i64 n, .int .i64 4, .int .i64 c, .slice none 0 0, .int .i64 lx, .int .i64 ly, .int .i64 lt]) ∧ Ext w w' := by
  go_enter Try.func45, Try.ntmps45
  go_wp2_with (go_at_call 37; refine (over_any _ _ _ _ _ _ _ _ _ _ _).mono ?_; rintro e w' ⟨rfl, d, rfl⟩)
  (refine bodyPost_ret (v := ?_) (by simp [results, Try.results45, go_sem]; rfl) rfl ?_)
  refine ⟨rfl, ?_⟩
  (repeat (first | exact Ext.refl _ | assumption | refine Ext.alloc ?_ _ | refine Ext.ext ?_ _ | refine Ext.drew ?_))
end Go.Proofs.Ytendgmnbnnkpnaa.G
namespace Go.Proofs.Ytendgmnbnnkpnaa.G
open Go.RowKit

/-- a gesture's cells lie at a place -/
def GesAt (w : World) (b o : Nat) (g : Ges) : Prop := ∀ j v, (gesV g).cells[j]? = some v → w.cell? ⟨b, o + j, none⟩ = some v
/-- a slice of gestures -/
def RepG (w : World) (v : Value) (gs : List Ges) : Prop :=
  (gs = [] ∧ ∃ a c, v = .slice a 0 c) ∨ ∃ b off c, v = .slice (some ⟨b, off, none⟩) gs.length c ∧ ∀ i g, gs[i]? = some g → GesAt w b (off + i * 10) g
theorem RepG.ext {w w' : World} {v : Value} {gs : List Ges} (h : RepG w v gs) (he : Ext w w') : RepG w' v gs := by
  rcases h with h | ⟨b, off, c, h1, h2⟩
  · exact .inl h
  · exact .inr ⟨b, off, c, h1, fun i g hi j v hv => he.cell_some (h2 i g hi j v hv)⟩
@[go_sem] theorem forall_ext2 {α β : Type} {f : α → β → World} {p : World → Prop} : (∀ c a b, c = f a b → p c) ↔ ∀ a b, p (f a b) := ⟨fun h a b => h _ a b rfl, fun h _ a b e => e ▸ h a b⟩
theorem wo1z {P : Program} {ops : Array Oper} {Wf : Array Value → World} {z0 z1 : Array Value} {j : Nat} {o : Oper} {a : Act} (hsz : ∀ z, (Wf z).heap.size = (Wf z0).heap.size) (ho : ops[j]? = some o) (hd : o.dst = none) (hw : Region.wanted o (yielded ops a.tmps) = true)
    (hrun : ∀ d, (execOp a.eval o).run P ((Wf z0).ext d) = .ok .skip ((Wf z1).ext d)) : WO P ops (fun w => ∃ d, w = (Wf z0).ext d) (fun w => ∃ d, w = (Wf z1).ext d) (Mvz Wf) [j] a := wo1 hsz ho hd hw hrun
theorem OwnT.like {S : Nat → Prop} {X Y : World} {B : Nat} {v : Value} : ∀ {ts : List Tch}, OwnT X B v ts → Like S X Y → (∀ b, S b → b < B) → OwnT Y B v ts
  | [], h, hl, hS => ownsRow_like h hl (fun b hb hs => by have := (h.lt b hb).1; have := hS b hs; omega)
  | [_], ⟨g, c, h1, h2⟩, hl, hS => ⟨g, c, ownsRow_like h1 hl (fun b hb hs => by have := (h1.lt b hb).1; have := hS b hs; omega), ownsRow_like h2 hl (fun b hb hs => by have := (h2.lt b hb).1; have := hS b hs; omega)⟩
  | [_, _], ⟨g, c, h, d, h0, h1, h2, h3⟩, hl, hS => ⟨g, c, h, d, h0, ownsRow_like h1 hl (fun b hb hs => by have := (h1.lt b hb).1; have := hS b hs; omega), ownsRow_like h2 hl (fun b hb hs => by have := (h2.lt b hb).1; have := hS b hs; omega), ownsRow_like h3 hl (fun b hb hs => by have := (h3.lt b hb).1; have := hS b hs; omega)⟩
  | _ :: _ :: _ :: _, h, _, _ => h.elim
theorem gesAt_of {w : World} {b : Nat} {g : Ges} {t : TypeId} (h : w.heap[b]? = some (.cells #[.int .i64 (g).Kind, .int .i64 (g).Node, .int .i64 (g).Phase, .int .i64 (g).X, .int .i64 (g).Y, .int .i64 (g).DX, .int .i64 (g).DY, .int .i64 (g).Scale, .int .i64 (g).VX, .int .i64 (g).VY] t)) : GesAt w b 0 g := by
  intro j v hv
  rw [Nat.zero_add]
  simp only [World.cell?, h]
  exact hv
theorem repG_one {w : World} {b : Nat} {g : Ges} {t : TypeId} (h : w.heap[b]? = some (.cells #[.int .i64 (g).Kind, .int .i64 (g).Node, .int .i64 (g).Phase, .int .i64 (g).X, .int .i64 (g).Y, .int .i64 (g).DX, .int .i64 (g).DY, .int .i64 (g).Scale, .int .i64 (g).VX, .int .i64 (g).VY] t)) : RepG w (.slice (some ⟨b, 0, none⟩) 1 1) [g] :=
  .inr ⟨b, 0, 1, rfl, fun i g' hi => by
    have : i = 0 := by have := (List.getElem?_eq_some_iff.1 hi).1; simpa using this
    subst this
    obtain rfl : g = g' := by simpa using hi
    exact gesAt_of h⟩
theorem repG_two {w : World} {b : Nat} {g k : Ges} {t : TypeId} (h : w.heap[b]? = some (.cells (#[.int .i64 (g).Kind, .int .i64 (g).Node, .int .i64 (g).Phase, .int .i64 (g).X, .int .i64 (g).Y, .int .i64 (g).DX, .int .i64 (g).DY, .int .i64 (g).Scale, .int .i64 (g).VX, .int .i64 (g).VY] ++ #[.int .i64 (k).Kind, .int .i64 (k).Node, .int .i64 (k).Phase, .int .i64 (k).X, .int .i64 (k).Y, .int .i64 (k).DX, .int .i64 (k).DY, .int .i64 (k).Scale, .int .i64 (k).VX, .int .i64 (k).VY]) t)) : RepG w (.slice (some ⟨b, 0, none⟩) 2 2) [g, k] :=
  .inr ⟨b, 0, 2, rfl, fun i g' hi => by
    have : i = 0 ∨ i = 1 := by have := (List.getElem?_eq_some_iff.1 hi).1; simp at this; omega
    rcases this with rfl | rfl
    · obtain rfl : g = g' := by simpa using hi
      intro j v hv
      have hj : j < 10 := (Array.getElem?_eq_some_iff.1 hv).1
      simp only [World.cell?, h, Nat.zero_mul, Nat.zero_add]
      rw [Array.getElem?_append_left (by simpa using hj)]; exact hv
    · obtain rfl : k = g' := by simpa using hi
      intro j v hv
      simp only [World.cell?, h, Nat.one_mul, Nat.zero_add]
      rw [Array.getElem?_append_right (by simp)]
      have hv' : (#[.int .i64 (k).Kind, .int .i64 (k).Node, .int .i64 (k).Phase, .int .i64 (k).X, .int .i64 (k).Y, .int .i64 (k).DX, .int .i64 (k).DY, .int .i64 (k).Scale, .int .i64 (k).VX, .int .i64 (k).VY] : Array Value)[j]? = some v := hv
      simpa using hv'⟩
set_option maxHeartbeats 1000000 in
theorem win_r (r : Rec) (h : ROk r) (a : Option Addr) (cap : Nat) (w : World) (hr : RepT w a r.Ts) :
    Calls Try.prog 22 #[.agg #[.int .i64 r.Kind, .int .i64 r.Node, .int .i64 r.State, .int .i64 r.Count, .slice a r.Ts.length cap, .int .i64 r.L.X, .int .i64 r.L.Y, .int .i64 r.L.T]] w fun e w' =>
      ∃ a' c' v, e = .returned (.tuple #[.agg (recC (win r).1 a' c').toArray, v]) ∧ Ext w w' ∧ RepT w' a' (win r).1.Ts ∧ RepG w' v (win r).2 := by
  have hcl := Lib.hid (clone_r r h a cap)
  by_cases h2 : r.State = 2
  · by_cases hc : cont r.Kind = true
    · have hw : win r = ({ r with State := 3, Count := 1 }, [stageG r 2, stageG r 3]) := by simp [win, h2, hc]
      rw [hw]
      have hk : (r.State == 2) = true := by simpa using h2
      have hl := h.sure hc (.inl h2)
      have h' : ROk { r with State := 3, Count := 1 } := ⟨h.kind, h.node, by simp, by simp, h.last, h.len, h.ts, by simp, fun _ _ => hl⟩
      have m2 : ∀ (a : Option Addr) (cap : Nat) (w : World), _ := fun a cap w => moves_r { r with State := 3, Count := 1 } h' hc hl 2 (by simp) a cap w
      have m3 : ∀ (a : Option Addr) (cap : Nat) (w : World), _ := fun a cap w => moves_r { r with State := 3, Count := 1 } h' hc hl 3 (by simp) a cap w
      have e2 : stageG { r with State := 3, Count := 1 } 2 = stageG r 2 := rfl
      have e3 : stageG { r with State := 3, Count := 1 } 3 = stageG r 3 := rfl
      rw [e2] at m2
      rw [e3] at m3
      obtain ⟨G, hG⟩ : ∃ G, G = stageG r 2 := ⟨_, rfl⟩
      obtain ⟨K, hK⟩ : ∃ K, K = stageG r 3 := ⟨_, rfl⟩
      rw [← hG] at m2 ⊢
      rw [← hK] at m3 ⊢
      simp only [gesV] at m2 m3
      replace m2 := Lib.hid m2
      replace m3 := Lib.hid m3
      replace h2 := Lib.hid h2
      clear e2 e3 hG hK hw h' hl
      go_enter Try.func22, Try.ntmps22
      go_wp2_with fail
      refine (hcl.out _ (hr.ext (by (repeat (first | exact Ext.refl _ | assumption | refine Ext.alloc ?_ _ | refine Ext.ext ?_ _ | refine Ext.drew ?_))))).mono ?_
      rintro e w1 ⟨a1, c1, rfl, ⟨d1, rfl⟩, hown⟩
      go_wp2_with (go_at_call 34; refine (cont_any _ _).mono ?_; rintro e w' ⟨rfl, rfl⟩)
      have hrz : ∀ (z : Array Value) (d : Grow), RepT ((((w.alloc (.cells #[.int .i64 r.Kind, .int .i64 r.Node, .int .i64 3, .int .i64 1, .slice a1 r.Ts.length c1, .int .i64 r.L.X, .int .i64 r.L.Y, .int .i64 r.L.T] 26)).alloc (.cells z 26)).ext d1).ext d) a1 r.Ts := fun z d => ((hown.like (S := fun k => k < w.heap.size + 2) (Y := ((w.alloc (.cells #[.int .i64 r.Kind, .int .i64 r.Node, .int .i64 3, .int .i64 1, .slice a1 r.Ts.length c1, .int .i64 r.L.X, .int .i64 r.L.Y, .int .i64 r.L.T] 26)).alloc (.cells z 26)).ext d1) (by (repeat (first | exact Like.refl _ _ | refine Like.ext ?_ _ | refine Like.alloc ?_ _ | refine Like.swap ?_ (by simp <;> omega) _ _))) (by simp)).rep).ext (Ext.ext (Ext.refl _) d)
      replace hrz := Lib.hid hrz
      clear hown hcl
      (refine wp_region_calm_z (fun z => ((w.alloc (.cells #[.int .i64 r.Kind, .int .i64 r.Node, .int .i64 3, .int .i64 1, .slice a1 r.Ts.length c1, .int .i64 r.L.X, .int .i64 r.L.Y, .int .i64 r.L.T] 26)).alloc (.cells z 26)).ext d1) 6 [0, 1, 2, 3, 4] [5] [] [7] #[.int .i64 r.Kind, .int .i64 r.Node, .int .i64 3, .int .i64 1, .slice a1 r.Ts.length c1, .int .i64 r.L.X, .int .i64 r.L.Y, .int .i64 r.L.T] (by kernel_rfl) (by kernel_rfl) (by simp only [List.filterMap_cons, List.filterMap_nil, List.getElem?_toArray, List.getElem?_cons_succ, List.getElem?_cons_zero]; try exact rfl) (by simp only [List.filterMap_cons, List.filterMap_nil, List.getElem?_toArray, List.getElem?_cons_succ, List.getElem?_cons_zero]; try exact rfl) (by simp only [List.filterMap_cons, List.filterMap_nil, List.getElem?_toArray, List.getElem?_cons_succ, List.getElem?_cons_zero]; try exact rfl) (by intro z; simp) ?_; (repeat (first | (refine ql_plain rfl rfl ?_; intro K hK; go_big_quiet_op; go_big_quiet_on) | (refine ql_nilCheck rfl rfl rfl ?_; intro K hK; simp only [Act.put, List.setIfInBounds_toArray, List.set_cons_succ, List.set_cons_zero]; go_big_quiet_on) | (refine ql_callz (fun _ _ => (m2.out _ _ _ (hrz.out _ _))) rfl rfl Try.func39 rfl (by kernel_rfl) rfl ?_; intro K hK; simp only [Act.put, List.setIfInBounds_toArray, List.set_cons_succ, List.set_cons_zero]; go_big_quiet_on) | (refine ql_callz (fun _ _ => (m3.out _ _ _ (hrz.out _ _))) rfl rfl Try.func39 rfl (by kernel_rfl) rfl ?_; intro K hK; simp only [Act.put, List.setIfInBounds_toArray, List.set_cons_succ, List.set_cons_zero]; go_big_quiet_on) | (refine ql_skip rfl ?_; intro K hK; simp only [Act.put, List.setIfInBounds_toArray, List.set_cons_succ, List.set_cons_zero]; go_big_quiet_on))); refine ql_nil ?_; refine ⟨?_, ?_⟩; (focus (refine wo1z (Wf := (fun z => ((w.alloc (.cells #[.int .i64 r.Kind, .int .i64 r.Node, .int .i64 3, .int .i64 1, .slice a1 r.Ts.length c1, .int .i64 r.L.X, .int .i64 r.L.Y, .int .i64 r.L.T] 26)).alloc (.cells z 26)).ext d1)) (z1 := #[.int .i64 r.Kind, .int .i64 r.Node, .int .i64 3, .int .i64 1, .slice a1 r.Ts.length c1, .int .i64 r.L.X, .int .i64 r.L.Y, .int .i64 r.L.T]) ?_ (by simp only [List.getElem?_toArray, List.getElem?_cons_succ, List.getElem?_cons_zero]; try exact rfl) ?_ ?_ ?_; intro z; simp; rfl; rfl; intro d; go_simp)))
      refine mw1 (mkz_sl (.cells (#[.int .i64 (G).Kind, .int .i64 (G).Node, .int .i64 (G).Phase, .int .i64 (G).X, .int .i64 (G).Y, .int .i64 (G).DX, .int .i64 (G).DY, .int .i64 (G).Scale, .int .i64 (G).VX, .int .i64 (G).VY] ++ #[.int .i64 (K).Kind, .int .i64 (K).Node, .int .i64 (K).Phase, .int .i64 (K).X, .int .i64 (K).Y, .int .i64 (K).DX, .int .i64 (K).DY, .int .i64 (K).Scale, .int .i64 (K).VX, .int .i64 (K).VY]) 49) 2 (by intro z; simp) (by simp only [List.getElem?_toArray, List.getElem?_cons_succ, List.getElem?_cons_zero]; try exact rfl) rfl (fun z d => by go_simp)) ?_; intro u1 hu1 K hK; simp only [Act.put, List.setIfInBounds_toArray, List.set_cons_succ, List.set_cons_zero, List.getElem?_toArray, List.getElem?_cons_succ, List.getElem?_cons_zero, Option.bind_some]; refine hK _ ?_; clear hK K; (repeat (first | (refine pl_plain rfl rfl ?_; intro K hK; go_big_quiet_op; go_big_quiet_on) | (refine pl_nilCheck rfl rfl rfl ?_; intro K hK; simp only [Act.put, List.setIfInBounds_toArray, List.set_cons_succ, List.set_cons_zero]; go_big_quiet_on))); refine pl_nil ?_; rintro w1 he1 ⟨_, hf1⟩
      obtain ⟨g1, rfl, hg⟩ := hf1
      obtain ⟨d2, rfl⟩ := he1
      go_wp2; refine only_normal ?_
      go_wp2
      (refine bodyPost_ret (v := ?_) (by simp [results, Try.results22, go_sem]; rfl) rfl ?_)
      refine ⟨a1, c1, _, rfl, ?_, hrz.out _ _, repG_two hg⟩
      (repeat (first | exact Ext.refl _ | assumption | refine Ext.alloc ?_ _ | refine Ext.ext ?_ _ | refine Ext.drew ?_))
    · have hw : win r = (over r, [onceG r]) := by simp [win, h2, hc]
      rw [hw]
      have hk : (r.State == 2) = true := by simpa using h2
      have hk2 : cont r.Kind = false := by simpa using hc
      replace h2 := Lib.hid h2
      obtain ⟨G, hG⟩ : ∃ G, G = onceG r := ⟨_, rfl⟩
      have ho := once_r r h
      rw [← hG] at ho ⊢
      simp only [gesV] at ho
      replace ho := Lib.hid ho
      clear hc hw
      go_enter Try.func22, Try.ntmps22
      go_wp2_with fail
      refine (hcl.out _ (hr.ext (by (repeat (first | exact Ext.refl _ | assumption | refine Ext.alloc ?_ _ | refine Ext.ext ?_ _ | refine Ext.drew ?_))))).mono ?_
      rintro e w1 ⟨a1, c1, rfl, ⟨d1, rfl⟩, hown⟩
      go_wp2_with (go_at_call 34; refine (cont_any _ _).mono ?_; rintro e w' ⟨rfl, rfl⟩)
      have hrep := hown.rep
      have hrz : ∀ (z : Array Value) (d : Grow), RepT ((((w.alloc (.cells #[.int .i64 r.Kind, .int .i64 r.Node, .int .i64 r.State, .int .i64 r.Count, .slice a1 r.Ts.length c1, .int .i64 r.L.X, .int .i64 r.L.Y, .int .i64 r.L.T] 26)).alloc (.cells z 26)).ext d1).ext d) a1 r.Ts := fun z d => ((hown.like (S := fun k => k < w.heap.size + 2) (Y := ((w.alloc (.cells #[.int .i64 r.Kind, .int .i64 r.Node, .int .i64 r.State, .int .i64 r.Count, .slice a1 r.Ts.length c1, .int .i64 r.L.X, .int .i64 r.L.Y, .int .i64 r.L.T] 26)).alloc (.cells z 26)).ext d1) (by (repeat (first | exact Like.refl _ _ | refine Like.ext ?_ _ | refine Like.alloc ?_ _ | refine Like.swap ?_ (by simp <;> omega) _ _))) (by simp)).rep).ext (Ext.ext (Ext.refl _) d)
      replace hrz := Lib.hid hrz
      clear hown hcl
      (refine wp_region_calm_z (fun z => ((w.alloc (.cells #[.int .i64 r.Kind, .int .i64 r.Node, .int .i64 r.State, .int .i64 r.Count, .slice a1 r.Ts.length c1, .int .i64 r.L.X, .int .i64 r.L.Y, .int .i64 r.L.T] 26)).alloc (.cells z 26)).ext d1) 5 [0, 1, 2, 3] [4] [] [6] #[.int .i64 r.Kind, .int .i64 r.Node, .int .i64 4, .int .i64 r.Count, .slice none 0 0, .int .i64 r.L.X, .int .i64 r.L.Y, .int .i64 r.L.T] (by kernel_rfl) (by kernel_rfl) (by simp only [List.filterMap_cons, List.filterMap_nil, List.getElem?_toArray, List.getElem?_cons_succ, List.getElem?_cons_zero]; try exact rfl) (by simp only [List.filterMap_cons, List.filterMap_nil, List.getElem?_toArray, List.getElem?_cons_succ, List.getElem?_cons_zero]; try exact rfl) (by simp only [List.filterMap_cons, List.filterMap_nil, List.getElem?_toArray, List.getElem?_cons_succ, List.getElem?_cons_zero]; try exact rfl) (by intro z; simp) ?_; (repeat (first | (refine ql_plain rfl rfl ?_; intro K hK; go_big_quiet_op; go_big_quiet_on) | (refine ql_nilCheck rfl rfl rfl ?_; intro K hK; simp only [Act.put, List.setIfInBounds_toArray, List.set_cons_succ, List.set_cons_zero]; go_big_quiet_on) | (refine ql_callz (fun _ _ => over_any _ _ _ _ _ _ _ _ _ _ _) rfl rfl Try.func37 rfl (by kernel_rfl) rfl ?_; intro K hK; simp only [Act.put, List.setIfInBounds_toArray, List.set_cons_succ, List.set_cons_zero]; go_big_quiet_on) | (refine ql_callz (fun _ _ => (ho.out _ _ _ (hrz.out _ _))) rfl rfl Try.func38 rfl (by kernel_rfl) rfl ?_; intro K hK; simp only [Act.put, List.setIfInBounds_toArray, List.set_cons_succ, List.set_cons_zero]; go_big_quiet_on) | (refine ql_skip rfl ?_; intro K hK; simp only [Act.put, List.setIfInBounds_toArray, List.set_cons_succ, List.set_cons_zero]; go_big_quiet_on))); refine ql_nil ?_; refine ⟨?_, ?_⟩; (focus (refine wo1z (Wf := (fun z => ((w.alloc (.cells #[.int .i64 r.Kind, .int .i64 r.Node, .int .i64 r.State, .int .i64 r.Count, .slice a1 r.Ts.length c1, .int .i64 r.L.X, .int .i64 r.L.Y, .int .i64 r.L.T] 26)).alloc (.cells z 26)).ext d1)) (z1 := #[.int .i64 r.Kind, .int .i64 r.Node, .int .i64 4, .int .i64 r.Count, .slice none 0 0, .int .i64 r.L.X, .int .i64 r.L.Y, .int .i64 r.L.T]) ?_ (by simp only [List.getElem?_toArray, List.getElem?_cons_succ, List.getElem?_cons_zero]; try exact rfl) ?_ ?_ ?_; intro z; simp; rfl; rfl; intro d; go_simp)))
      refine mw1 (mkz_sl (.cells #[.int .i64 (G).Kind, .int .i64 (G).Node, .int .i64 (G).Phase, .int .i64 (G).X, .int .i64 (G).Y, .int .i64 (G).DX, .int .i64 (G).DY, .int .i64 (G).Scale, .int .i64 (G).VX, .int .i64 (G).VY] 49) 1 (by intro z; simp) (by simp only [List.getElem?_toArray, List.getElem?_cons_succ, List.getElem?_cons_zero]; try exact rfl) rfl (fun z d => by go_simp)) ?_; intro u1 hu1 K hK; simp only [Act.put, List.setIfInBounds_toArray, List.set_cons_succ, List.set_cons_zero, List.getElem?_toArray, List.getElem?_cons_succ, List.getElem?_cons_zero, Option.bind_some]; refine hK _ ?_; clear hK K; (repeat (first | (refine pl_plain rfl rfl ?_; intro K hK; go_big_quiet_op; go_big_quiet_on) | (refine pl_nilCheck rfl rfl rfl ?_; intro K hK; simp only [Act.put, List.setIfInBounds_toArray, List.set_cons_succ, List.set_cons_zero]; go_big_quiet_on))); refine pl_nil ?_; rintro w1 he1 ⟨_, hf1⟩
      obtain ⟨g1, rfl, hg⟩ := hf1
      obtain ⟨d2, rfl⟩ := he1
      go_wp2; refine only_normal ?_
      go_wp2
      (refine bodyPost_ret (v := ?_) (by simp [results, Try.results22, go_sem]; rfl) rfl ?_)
      refine ⟨none, 0, _, rfl, ?_, .inl rfl, repG_one hg⟩
      (repeat (first | exact Ext.refl _ | assumption | refine Ext.alloc ?_ _ | refine Ext.ext ?_ _ | refine Ext.drew ?_))
  · have hk : (r.State == 2) = false := by simpa using h2
    by_cases h01 : r.State = 0 ∨ r.State = 1
    · have hw : win r = ({ r with State := 3 }, []) := by simp [win, h2, h01]
      rw [hw]
      clear hw h2
      by_cases h0 : r.State = 0
      · have hk0 : (r.State == 0) = true := by simpa using h0
        clear h0 h01
        go_enter Try.func22, Try.ntmps22
        go_wp2_with fail
        refine (hcl.out _ (hr.ext (by (repeat (first | exact Ext.refl _ | assumption | refine Ext.alloc ?_ _ | refine Ext.ext ?_ _ | refine Ext.drew ?_))))).mono ?_
        rintro e w1 ⟨a1, c1, rfl, ⟨d1, rfl⟩, hown⟩
        have hrz : ∀ (st z : Array Value), RepT (((w.alloc (.cells st 26)).alloc (.cells z 26)).ext d1) a1 r.Ts := fun st z => (hown.like (S := fun k => k < w.heap.size + 2) (by (repeat (first | exact Like.refl _ _ | refine Like.ext ?_ _ | refine Like.alloc ?_ _ | refine Like.swap ?_ (by simp <;> omega) _ _))) (by simp)).rep
        replace hrz := Lib.hid hrz
        clear hown
        go_wp2
        (refine bodyPost_ret (v := ?_) (by simp [results, Try.results22, go_sem]; rfl) rfl ?_)
        refine ⟨a1, c1, _, rfl, ?_, hrz.out _ _, .inl ⟨rfl, _, _, rfl⟩⟩
        (repeat (first | exact Ext.refl _ | assumption | refine Ext.alloc ?_ _ | refine Ext.ext ?_ _ | refine Ext.drew ?_))
      · have hk0 : (r.State == 0) = false := by simpa using h0
        have hk1 : (r.State == 1) = true := by simp; omega
        clear h0 h01
        go_enter Try.func22, Try.ntmps22
        go_wp2_with fail
        refine (hcl.out _ (hr.ext (by (repeat (first | exact Ext.refl _ | assumption | refine Ext.alloc ?_ _ | refine Ext.ext ?_ _ | refine Ext.drew ?_))))).mono ?_
        rintro e w1 ⟨a1, c1, rfl, ⟨d1, rfl⟩, hown⟩
        have hrz : ∀ (st z : Array Value), RepT (((w.alloc (.cells st 26)).alloc (.cells z 26)).ext d1) a1 r.Ts := fun st z => (hown.like (S := fun k => k < w.heap.size + 2) (by (repeat (first | exact Like.refl _ _ | refine Like.ext ?_ _ | refine Like.alloc ?_ _ | refine Like.swap ?_ (by simp <;> omega) _ _))) (by simp)).rep
        replace hrz := Lib.hid hrz
        clear hown
        go_wp2
        (refine bodyPost_ret (v := ?_) (by simp [results, Try.results22, go_sem]; rfl) rfl ?_)
        refine ⟨a1, c1, _, rfl, ?_, hrz.out _ _, .inl ⟨rfl, _, _, rfl⟩⟩
        (repeat (first | exact Ext.refl _ | assumption | refine Ext.alloc ?_ _ | refine Ext.ext ?_ _ | refine Ext.drew ?_))
    · have hw : win r = (r, []) := by simp [win, h2, h01]
      rw [hw]
      have hk0 : (r.State == 0) = false := by simp; omega
      have hk1 : (r.State == 1) = false := by simp; omega
      clear hw h2 h01
      go_enter Try.func22, Try.ntmps22
      go_wp2_with fail
      refine (hcl.out _ (hr.ext (by (repeat (first | exact Ext.refl _ | assumption | refine Ext.alloc ?_ _ | refine Ext.ext ?_ _ | refine Ext.drew ?_))))).mono ?_
      rintro e w1 ⟨a1, c1, rfl, ⟨d1, rfl⟩, hown⟩
      have hrz : ∀ (st z : Array Value), RepT (((w.alloc (.cells st 26)).alloc (.cells z 26)).ext d1) a1 r.Ts := fun st z => (hown.like (S := fun k => k < w.heap.size + 2) (by (repeat (first | exact Like.refl _ _ | refine Like.ext ?_ _ | refine Like.alloc ?_ _ | refine Like.swap ?_ (by simp <;> omega) _ _))) (by simp)).rep
      replace hrz := Lib.hid hrz
      clear hown
      go_wp2
      (refine bodyPost_ret (v := ?_) (by simp [results, Try.results22, go_sem]; rfl) rfl ?_)
      refine ⟨a1, c1, _, rfl, ?_, hrz.out _ _, .inl ⟨rfl, _, _, rfl⟩⟩
      (repeat (first | exact Ext.refl _ | assumption | refine Ext.alloc ?_ _ | refine Ext.ext ?_ _ | refine Ext.drew ?_))
end Go.Proofs.Ytendgmnbnnkpnaa.G
namespace Go.Proofs.Ytendgmnbnnkpnaa.G
open Go.RowKit
def gesL (g : Ges) : List Value := [.int .i64 g.Kind, .int .i64 g.Node, .int .i64 g.Phase, .int .i64 g.X, .int .i64 g.Y, .int .i64 g.DX, .int .i64 g.DY, .int .i64 g.Scale, .int .i64 g.VX, .int .i64 g.VY]
/-- gestures that a call made itself -/
def OwnG (w : World) (B : Nat) (v : Value) (gs : List Ges) : Prop := w.ownsRow B 49 10 v gs.length (gs.flatMap gesL) ∧ (gs = [] → v = .slice none 0 0)
theorem OwnG.ext {w w' : World} {B : Nat} {v : Value} {gs : List Ges} (h : OwnG w B v gs) (he : Ext w w') : OwnG w' B v gs := ⟨ownsRow_ext h.1 he, h.2⟩
theorem OwnG.none (w : World) (B : Nat) : OwnG w B (.slice none 0 0) [] := ⟨World.ownsRow_nil _ _ _ _, fun _ => rfl⟩
theorem ownG_one {w : World} {B b : Nat} {g : Ges} (h : w.heap[b]? = some (.cells #[.int .i64 (g).Kind, .int .i64 (g).Node, .int .i64 (g).Phase, .int .i64 (g).X, .int .i64 (g).Y, .int .i64 (g).DX, .int .i64 (g).DY, .int .i64 (g).Scale, .int .i64 (g).VX, .int .i64 (g).VY] 49)) (hB : B ≤ b) : OwnG w B (.slice (some ⟨b, 0, none⟩) 1 1) [g] :=
  ⟨⟨rfl, .inr ⟨b, 1, _, rfl, hB, h, Nat.le_refl _, by decide, rfl, rfl⟩⟩, fun h => by cases h⟩
set_option maxHeartbeats 1000000 in
theorem abort_r (r : Rec) (h : ROk r) (a : Option Addr) (cap : Nat) (w : World) (hr : RepT w a r.Ts) :
    Calls Try.prog 47 #[.agg #[.int .i64 r.Kind, .int .i64 r.Node, .int .i64 r.State, .int .i64 r.Count, .slice a r.Ts.length cap, .int .i64 r.L.X, .int .i64 r.L.Y, .int .i64 r.L.T]] w fun e w' =>
      ∃ a' c' v, e = .returned (.tuple #[.agg (recC (abort r).1 a' c').toArray, v]) ∧ Ext w w' ∧ RepT w' a' (abort r).1.Ts ∧ OwnG w' w.heap.size v (abort r).2 := by
  by_cases hc : r.State = 3 ∧ r.Count = 1 ∧ cont r.Kind = true
  · have hw : abort r = (over r, [stageG r 5]) := by simp only [abort, if_pos hc]
    rw [hw]
    obtain ⟨h3, h1, hc⟩ := hc
    have hk : (r.State == 3) = true := by simpa using h3
    have hk1 : (r.Count == 1) = true := by simpa using h1
    have m5 : ∀ (a : Option Addr) (cap : Nat) (w : World), _ := fun a cap w => moves_r r h hc (h.sure hc (.inr ⟨h3, h1⟩)) 5 (by simp) a cap w
    obtain ⟨G, hG⟩ : ∃ G, G = stageG r 5 := ⟨_, rfl⟩
    rw [← hG] at m5 ⊢
    simp only [gesV] at m5
    replace m5 := Lib.hid m5
    clear h3 h1 hG hw
    go_enter Try.func47, Try.ntmps47
    go_wp2_with (go_at_call 34; refine (cont_any _ _).mono ?_; rintro e w' ⟨rfl, rfl⟩)
    have hrz : ∀ (z : Array Value) (d : Grow), RepT (((w.alloc (.cells #[.int .i64 r.Kind, .int .i64 r.Node, .int .i64 r.State, .int .i64 r.Count, .slice a r.Ts.length cap, .int .i64 r.L.X, .int .i64 r.L.Y, .int .i64 r.L.T] 26)).alloc (.cells z 26)).ext d) a r.Ts := fun z d => hr.ext (by (repeat (first | exact Ext.refl _ | assumption | refine Ext.alloc ?_ _ | refine Ext.ext ?_ _ | refine Ext.drew ?_)))
    replace hrz := Lib.hid hrz
    (refine wp_region_calm_z (fun z => ((w.alloc (.cells #[.int .i64 r.Kind, .int .i64 r.Node, .int .i64 r.State, .int .i64 r.Count, .slice a r.Ts.length cap, .int .i64 r.L.X, .int .i64 r.L.Y, .int .i64 r.L.T] 26)).alloc (.cells z 26))) 5 [0, 1, 2, 3] [4] [] [6] #[.int .i64 r.Kind, .int .i64 r.Node, .int .i64 4, .int .i64 r.Count, .slice none 0 0, .int .i64 r.L.X, .int .i64 r.L.Y, .int .i64 r.L.T] (by kernel_rfl) (by kernel_rfl) (by simp only [List.filterMap_cons, List.filterMap_nil, List.getElem?_toArray, List.getElem?_cons_succ, List.getElem?_cons_zero]; try exact rfl) (by simp only [List.filterMap_cons, List.filterMap_nil, List.getElem?_toArray, List.getElem?_cons_succ, List.getElem?_cons_zero]; try exact rfl) (by simp only [List.filterMap_cons, List.filterMap_nil, List.getElem?_toArray, List.getElem?_cons_succ, List.getElem?_cons_zero]; try exact rfl) (by intro z; simp) ?_; (repeat (first | (refine ql_plain rfl rfl ?_; intro K hK; go_big_quiet_op; go_big_quiet_on) | (refine ql_nilCheck rfl rfl rfl ?_; intro K hK; simp only [Act.put, List.setIfInBounds_toArray, List.set_cons_succ, List.set_cons_zero]; go_big_quiet_on) | (refine ql_callz (fun _ _ => over_any _ _ _ _ _ _ _ _ _ _ _) rfl rfl Try.func37 rfl (by kernel_rfl) rfl ?_; intro K hK; simp only [Act.put, List.setIfInBounds_toArray, List.set_cons_succ, List.set_cons_zero]; go_big_quiet_on) | (refine ql_callz (fun _ _ => (m5.out _ _ _ (hrz.out _ _))) rfl rfl Try.func39 rfl (by kernel_rfl) rfl ?_; intro K hK; simp only [Act.put, List.setIfInBounds_toArray, List.set_cons_succ, List.set_cons_zero]; go_big_quiet_on) | (refine ql_skip rfl ?_; intro K hK; simp only [Act.put, List.setIfInBounds_toArray, List.set_cons_succ, List.set_cons_zero]; go_big_quiet_on))); refine ql_nil ?_; refine ⟨?_, ?_⟩; (focus (refine wo1z (Wf := (fun z => ((w.alloc (.cells #[.int .i64 r.Kind, .int .i64 r.Node, .int .i64 r.State, .int .i64 r.Count, .slice a r.Ts.length cap, .int .i64 r.L.X, .int .i64 r.L.Y, .int .i64 r.L.T] 26)).alloc (.cells z 26)))) (z1 := #[.int .i64 r.Kind, .int .i64 r.Node, .int .i64 4, .int .i64 r.Count, .slice none 0 0, .int .i64 r.L.X, .int .i64 r.L.Y, .int .i64 r.L.T]) ?_ (by simp only [List.getElem?_toArray, List.getElem?_cons_succ, List.getElem?_cons_zero]; try exact rfl) ?_ ?_ ?_; intro z; simp; rfl; rfl; intro d; go_simp)))
    refine mw1 (mkz_sl (.cells #[.int .i64 (G).Kind, .int .i64 (G).Node, .int .i64 (G).Phase, .int .i64 (G).X, .int .i64 (G).Y, .int .i64 (G).DX, .int .i64 (G).DY, .int .i64 (G).Scale, .int .i64 (G).VX, .int .i64 (G).VY] 49) 1 (by intro z; simp) (by simp only [List.getElem?_toArray, List.getElem?_cons_succ, List.getElem?_cons_zero]; try exact rfl) rfl (fun z d => by go_simp)) ?_; intro u1 hu1 K hK; simp only [Act.put, List.setIfInBounds_toArray, List.set_cons_succ, List.set_cons_zero, List.getElem?_toArray, List.getElem?_cons_succ, List.getElem?_cons_zero, Option.bind_some]; refine hK _ ?_; clear hK K; (repeat (first | (refine pl_plain rfl rfl ?_; intro K hK; go_big_quiet_op; go_big_quiet_on) | (refine pl_nilCheck rfl rfl rfl ?_; intro K hK; simp only [Act.put, List.setIfInBounds_toArray, List.set_cons_succ, List.set_cons_zero]; go_big_quiet_on))); refine pl_nil ?_; rintro w1 he1 ⟨_, hf1⟩
    obtain ⟨g1, rfl, hg⟩ := hf1
    obtain ⟨d2, rfl⟩ := he1
    go_wp2; refine only_normal ?_
    go_wp2
    (refine bodyPost_ret (v := ?_) (by simp [results, Try.results47, go_sem]; rfl) rfl ?_)
    refine ⟨none, 0, _, rfl, ?_, .inl rfl, ownG_one hg ?_⟩
    · (repeat (first | exact Ext.refl _ | assumption | refine Ext.alloc ?_ _ | refine Ext.ext ?_ _ | refine Ext.drew ?_))
    · have := hu1 _ rfl; simp only [World.size_ext, World.size_alloc] at this; omega
  · have hw : abort r = (over r, []) := by simp only [abort, if_neg hc]
    rw [hw]
    by_cases h3 : r.State = 3
    · have hk : (r.State == 3) = true := by simpa using h3
      by_cases h1 : r.Count = 1
      · have hk1 : (r.Count == 1) = true := by simpa using h1
        have hk2 : cont r.Kind = false := by simpa [h3, h1] using hc
        clear hw h3 h1 hc
        go_enter Try.func47, Try.ntmps47
        go_wp2_with (first | (go_at_call 34; refine (cont_any _ _).mono ?_; rintro e w' ⟨rfl, rfl⟩) | (go_at_call 37; refine (over_any _ _ _ _ _ _ _ _ _ _ _).mono ?_; rintro e w' ⟨rfl, d, rfl⟩))
        (refine bodyPost_ret (v := ?_) (by simp [results, Try.results47, go_sem]; rfl) rfl ?_)
        refine ⟨none, 0, _, rfl, ?_, .inl rfl, OwnG.none _ _⟩
        (repeat (first | exact Ext.refl _ | assumption | refine Ext.alloc ?_ _ | refine Ext.ext ?_ _ | refine Ext.drew ?_))
      · have hk1 : (r.Count == 1) = false := by simpa using h1
        clear hw h3 h1 hc
        go_enter Try.func47, Try.ntmps47
        go_wp2_with (go_at_call 37; refine (over_any _ _ _ _ _ _ _ _ _ _ _).mono ?_; rintro e w' ⟨rfl, d, rfl⟩)
        (refine bodyPost_ret (v := ?_) (by simp [results, Try.results47, go_sem]; rfl) rfl ?_)
        refine ⟨none, 0, _, rfl, ?_, .inl rfl, OwnG.none _ _⟩
        (repeat (first | exact Ext.refl _ | assumption | refine Ext.alloc ?_ _ | refine Ext.ext ?_ _ | refine Ext.drew ?_))
    · have hk : (r.State == 3) = false := by simpa using h3
      clear hw h3 hc
      go_enter Try.func47, Try.ntmps47
      go_wp2_with (go_at_call 37; refine (over_any _ _ _ _ _ _ _ _ _ _ _).mono ?_; rintro e w' ⟨rfl, d, rfl⟩)
      (refine bodyPost_ret (v := ?_) (by simp [results, Try.results47, go_sem]; rfl) rfl ?_)
      refine ⟨none, 0, _, rfl, ?_, .inl rfl, OwnG.none _ _⟩
      (repeat (first | exact Ext.refl _ | assumption | refine Ext.alloc ?_ _ | refine Ext.ext ?_ _ | refine Ext.drew ?_))
end Go.Proofs.Ytendgmnbnnkpnaa.G
