/- Contracts on whole recognisers: clone, once, moves, over. -/
import Derived.Test.YtendgmnbnnkpnaaH2
import Derived.Test.YtendgmnbnnkpnaaG8
import Derived.WalkKit
import Derived.WalkSpells
import Derived.WalkLawsBesides
import Derived.Deep.QuietTactic
import Derived.BigQuiet
import Derived.BigRegion
import Derived.Lib.Hide
import Derived.Deep.RegionWith
set_option linter.unusedSimpArgs false
set_option linter.unusedVariables false
namespace Go.Proofs.Ytendgmnbnnkpnaa.G
open Go.RowKit

/-- a recogniser's cells -/
def recC (r : Rec) (a : Option Addr) (cap : Nat) : List Value := [.int .i64 r.Kind, .int .i64 r.Node, .int .i64 r.State, .int .i64 r.Count, .slice a r.Ts.length cap, .int .i64 r.L.X, .int .i64 r.L.Y, .int .i64 r.L.T]
theorem TsAt.one {w : World} {b off : Nat} {t : Tch} (h : TsAt w b off [t]) : ∃ sb so sc, TchAt w b off t sb so sc := by
  obtain ⟨sb, so, sc, h⟩ := h 0 t rfl
  exact ⟨sb, so, sc, by simpa using h⟩
theorem TsAt.two {w : World} {b off : Nat} {t u : Tch} (h : TsAt w b off [t, u]) : ∃ sb so sc ub uo uc, TchAt w b off t sb so sc ∧ TchAt w b (off + 5) u ub uo uc := by
  obtain ⟨sb, so, sc, h0⟩ := h 0 t rfl
  obtain ⟨ub, uo, uc, h1⟩ := h 1 u rfl
  exact ⟨sb, so, sc, ub, uo, uc, by simpa using h0, by simpa using h1⟩
theorem tch_of_row {w : World} {B g c n o : Nat} {xs : List Value} {t : Tch} {tg tc : Nat} (h : w.ownsRow B 64 5 (.slice (some ⟨g, 0, none⟩) n c) n xs) (ho : o + 5 ≤ n * 5) (hx : ∀ j, j < 5 → xs[o + j]? = (cellsTch t tg 0 tc)[j]?) (hs : OwnS w B tg tc t.S) : TchAt w g o t tg 0 tc := by
  have hc := fun j (hj : j < 5) => (h.cellAt (o + j) (by omega)).trans (hx j hj)
  exact ⟨hc 0 (by omega), hc 1 (by omega), hc 2 (by omega), hc 3 (by omega), hc 4 (by omega), ownS_at hs⟩
theorem OwnT.rep {w : World} {B : Nat} {a : Option Addr} {c : Nat} : ∀ {ts : List Tch}, OwnT w B (.slice a ts.length c) ts → RepT w a ts
  | [], _ => .inl rfl
  | [t], ⟨g, gc, h1, h2⟩ => by
    obtain ⟨bt, ct, hv⟩ := ownsRow_pos h1 (by decide)
    simp only [List.length_cons, List.length_nil, Value.slice.injEq] at hv
    obtain ⟨rfl, _, rfl⟩ := hv
    refine .inr ⟨bt, 0, rfl, fun i t' hi => ?_⟩
    have : i = 0 := by have := (List.getElem?_eq_some_iff.1 hi).1; simpa using this
    subst this
    obtain rfl : t = t' := by simpa using hi
    exact ⟨g, 0, gc, by simpa using tch_of_row (o := 0) h1 (by simp) (fun j hj => by rw [Nat.zero_add]) h2⟩
  | [t, u], ⟨g, gc, k, kc, _, h1, h2, h3⟩ => by
    obtain ⟨bt, ct, hv⟩ := ownsRow_pos h1 (by decide)
    simp only [List.length_cons, List.length_nil, Value.slice.injEq] at hv
    obtain ⟨rfl, _, rfl⟩ := hv
    refine .inr ⟨bt, 0, rfl, fun i t' hi => ?_⟩
    have : i = 0 ∨ i = 1 := by have := (List.getElem?_eq_some_iff.1 hi).1; simp at this; omega
    rcases this with rfl | rfl
    · obtain rfl : t = t' := by simpa using hi
      exact ⟨g, 0, gc, by simpa using tch_of_row (o := 0) h1 (by simp) (fun j hj => by rw [Nat.zero_add, List.getElem?_append_left (by simpa [cellsTch] using hj)]) h2⟩
    · obtain rfl : u = t' := by simpa using hi
      exact ⟨k, 0, kc, by simpa using tch_of_row (o := 5) h1 (by simp) (fun j hj => by rw [List.getElem?_append_right (by simp [cellsTch])]; simp [cellsTch]) h3⟩
  | _ :: _ :: _ :: _, h => h.elim
theorem room_le (k : Int) : room k ≤ 2 := by unfold room; split <;> omega
/-- by the number of touches -/
theorem ROk.shape {r : Rec} (h : ROk r) : r.Ts = [] ∨ (∃ t, r.Ts = [t] ∧ TOk t) ∨ ∃ t u, r.Ts = [t, u] ∧ TOk t ∧ TOk u ∧ r.Kind = 7 := by
  have hl := h.len
  have ht := h.ts
  match hts : r.Ts with
  | [] => exact .inl rfl
  | [t] => exact .inr (.inl ⟨t, rfl, ht t (by simp [hts])⟩)
  | [t, u] =>
    refine .inr (.inr ⟨t, u, rfl, ht t (by simp [hts]), ht u (by simp [hts]), ?_⟩)
    rw [hts] at hl
    by_cases h7 : r.Kind = 7
    · exact h7
    · simp [room, h7] at hl
  | t :: u :: v :: l =>
    rw [hts] at hl
    have := room_le r.Kind
    simp at hl
    omega

theorem clone_r (r : Rec) (h : ROk r) (a : Option Addr) (cap : Nat) (w : World) (hr : RepT w a r.Ts) :
    Calls Try.prog 32 #[.agg #[.int .i64 r.Kind, .int .i64 r.Node, .int .i64 r.State, .int .i64 r.Count, .slice a r.Ts.length cap, .int .i64 r.L.X, .int .i64 r.L.Y, .int .i64 r.L.T]] w fun e w' =>
      ∃ a' c', e = .returned (.agg #[.int .i64 r.Kind, .int .i64 r.Node, .int .i64 r.State, .int .i64 r.Count, .slice a' r.Ts.length c', .int .i64 r.L.X, .int .i64 r.L.Y, .int .i64 r.L.T]) ∧ Ext w w' ∧ OwnT w' w.heap.size (.slice a' r.Ts.length c') r.Ts := by
  rcases h.shape with ht | ⟨t, ht, h1⟩ | ⟨t, u, ht, h1, h2, _⟩
  · rw [ht]; exact clone0 _ _ _ _ _ _ _ a cap w
  · rw [ht] at hr ⊢
    rcases hr with hr | ⟨b, off, rfl, hr⟩
    · cases hr
    · obtain ⟨sb, so, sc, hm⟩ := hr.one
      exact clone1 _ _ _ _ _ _ _ b off cap t sb so sc w h1 hm
  · rw [ht] at hr ⊢
    rcases hr with hr | ⟨b, off, rfl, hr⟩
    · cases hr
    · obtain ⟨sb, so, sc, ub, uo, uc, hm, hmu⟩ := hr.two
      exact clone2 _ _ _ _ _ _ _ b off cap t u sb so sc ub uo uc w h1 h2 hm hmu
theorem once_r (r : Rec) (h : ROk r) (a : Option Addr) (cap : Nat) (w : World) (hr : RepT w a r.Ts) :
    Calls Try.prog 38 #[.agg #[.int .i64 r.Kind, .int .i64 r.Node, .int .i64 r.State, .int .i64 r.Count, .slice a r.Ts.length cap, .int .i64 r.L.X, .int .i64 r.L.Y, .int .i64 r.L.T]] w fun e w' =>
      e = .returned (gesV (onceG r)) ∧ Ext w w' := by
  by_cases hk : r.Kind = 8
  · rcases h.shape with ht | ⟨t, ht, h1⟩ | ⟨t, u, ht, h1, h2, h7⟩
    · rw [ht]
      have := once_bare r.Kind r.Node r.State r.Count r.L.X r.L.Y r.L.T cap a w
      simpa [onceG, gesV, ht] using this
    · rw [ht] at hr ⊢
      rcases hr with hr | ⟨b, off, rfl, hr⟩
      · cases hr
      · obtain ⟨sb, so, sc, hm⟩ := hr.one
        have := once_fling r.Node r.State r.Count r.L.X r.L.Y r.L.T 1 b off cap t sb so sc w (by omega) h1 hm
        simpa [onceG, gesV, ht, hk] using this
    · omega
  · have := once_plain r.Kind r.Node r.State r.Count r.L.X r.L.Y r.L.T r.Ts.length cap a w hk
    simpa [onceG, gesV, hk] using this
theorem moves_r (r : Rec) (h : ROk r) (hc : cont r.Kind = true) (hl : r.Ts.length = room r.Kind) (p : Int) (hp : p = 2 ∨ p = 3 ∨ p = 4 ∨ p = 5) (a : Option Addr) (cap : Nat) (w : World) (hr : RepT w a r.Ts) :
    Calls Try.prog 39 #[.agg #[.int .i64 r.Kind, .int .i64 r.Node, .int .i64 r.State, .int .i64 r.Count, .slice a r.Ts.length cap, .int .i64 r.L.X, .int .i64 r.L.Y, .int .i64 r.L.T], .int .i64 p] w fun e w' =>
      e = .returned (gesV (stageG r p)) ∧ Ext w w' := by
  have hk : 4 ≤ r.Kind ∧ r.Kind ≤ 7 := by simpa [cont, btw] using hc
  obtain ⟨k, n, s, c, ts, ⟨lx, ly, lt⟩⟩ := r
  simp only at *
  rcases h.shape with ht | ⟨t, ht, h1⟩ | ⟨t, u, ht, h1, h2, h7⟩
  · simp only at ht; subst ht; simp [room] at hl; split at hl <;> omega
  · simp only at ht; subst ht
    rcases hr with hr | ⟨b, off, rfl, hr⟩
    · cases hr
    · obtain ⟨sb, so, sc, hm⟩ := hr.one
      have h7 : k ≠ 7 := fun h7 => by simp [room, h7] at hl
      exact moves_drag k n s c lx ly lt p b off cap t sb so sc w (by omega) hp h1 hm
  · simp only at ht h7; subst ht; subst h7
    rcases hr with hr | ⟨b, off, rfl, hr⟩
    · cases hr
    · obtain ⟨sb, so, sc, ub, uo, uc, hm, hmu⟩ := hr.two
      exact moves_pinch n s c lx ly lt p b off cap t u sb so sc ub uo uc w h1 h2 hm hmu

set_option maxHeartbeats 400000 in
theorem over_any (k n s c lx ly lt : Int) (a : Option Addr) (len cap : Nat) (w : World) :
    Calls Try.prog 37 #[.agg #[.int .i64 k, .int .i64 n, .int .i64 s, .int .i64 c, .slice a len cap, .int .i64 lx, .int .i64 ly, .int .i64 lt]] w fun e w' =>
      e = .returned (.agg #[.int .i64 k, .int .i64 n, .int .i64 4, .int .i64 c, .slice none 0 0, .int .i64 lx, .int .i64 ly, .int .i64 lt]) ∧ Ext w w' := by
  go_enter Try.func37, Try.ntmps37
  go_wp2
  (refine bodyPost_ret (v := ?_) (by simp [results, Try.results37, go_sem]; rfl) rfl ?_)
  refine ⟨rfl, ?_⟩
  (repeat (first | exact Ext.refl _ | assumption | refine Ext.alloc ?_ _ | refine Ext.ext ?_ _ | refine Ext.drew ?_))
set_option maxHeartbeats 400000 in
theorem lose_any (k n s c lx ly lt : Int) (a : Option Addr) (len cap : Nat) (w : World) :
    Calls Try.prog 45 #[.agg #[.int .i64 k, .int .i64 n, .int .i64 s, .int .i64 c, .slice a len cap, .int .i64 lx, .int .i64 ly, .int .i64 lt]] w fun e w' =>
      e = .returned (.agg #[.int .i64 k, .int .i64 n, .int .i64 4, .int .i64 c, .slice none 0 0, .int .i64 lx, .int .i64 ly, .int .i64 lt]) ∧ Ext w w' := by
  go_enter Try.func45, Try.ntmps45
  go_wp2_with (go_at_call 37; refine (over_any _ _ _ _ _ _ _ _ _ _ _).mono ?_; rintro e w' ⟨rfl, d, rfl⟩)
  (refine bodyPost_ret (v := ?_) (by simp [results, Try.results45, go_sem]; rfl) rfl ?_)
  refine ⟨rfl, ?_⟩
  (repeat (first | exact Ext.refl _ | assumption | refine Ext.alloc ?_ _ | refine Ext.ext ?_ _ | refine Ext.drew ?_))
end Go.Proofs.Ytendgmnbnnkpnaa.G
