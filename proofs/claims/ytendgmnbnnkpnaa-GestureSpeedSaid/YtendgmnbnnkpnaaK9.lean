/- Feed. -/
import Derived.Test.YtendgmnbnnkpnaaK8
import Derived.WalkKit
import Derived.WalkSpells
import Derived.WalkLawsBesides
import Derived.Deep.QuietTactic
import Derived.BigQuiet
import Derived.BigRegion
import Derived.Lib.Hide
import Derived.Deep.RegionWith
set_option linter.unusedSimpArgs false
set_option linter.unusedVariables false
namespace Go.Proofs.Ytendgmnbnnkpnaa.G
open Go.RowKit
theorem OwnT.lt {w : World} {B : Nat} {v : Value} : ∀ {ts : List Tch}, OwnT w B v ts → ∀ k, v.ownBlock = some k → B ≤ k ∧ k < w.heap.size
  | [], h => World.ownsRow.lt h
  | [_], ⟨_, _, h, _⟩ => World.ownsRow.lt h
  | [_, _], ⟨_, _, _, _, _, h, _⟩ => World.ownsRow.lt h
  | _ :: _ :: _ :: _, h => h.elim
theorem OwnR.base {w : World} {B B' : Nat} {v : Value} : ∀ {ts : List Tch}, OwnR w B v ts → B' ≤ B → OwnR w B' v ts
  | [], h, hb => ownsRow_base h hb
  | [_], ⟨g, o, c, h1, h2⟩, hb => ⟨g, o, c, ownsRow_base h1 hb, h2⟩
  | [_, _], ⟨g, o, c, h, p, d, h1, h2, h3⟩, hb => ⟨g, o, c, h, p, d, ownsRow_base h1 hb, h2, h3⟩
  | _ :: _ :: _ :: _, h, _ => h.elim
/-- touches in rows of their own types -/
def TsO (w : World) (a : Option Addr) (c : Nat) (ts : List Tch) : Prop := ts = [] ∨ OwnR w 0 (.slice a ts.length c) ts
theorem TsO.rep {w : World} {a : Option Addr} {c : Nat} {ts : List Tch} (h : TsO w a c ts) : RepT w a ts := by
  rcases h with h | h
  · exact .inl h
  · exact h.rep
theorem TsO.ext {w w' : World} {a : Option Addr} {c : Nat} {ts : List Tch} (h : TsO w a c ts) (he : Ext w w') : TsO w' a c ts := h.imp id (·.ext he)
/-- whatever a variable of the recogniser's type holds -/
theorem TsO.turn {w w' : World} {b : Nat} {z : Array Value} {a : Option Addr} {c : Nat} {ts : List Tch} (h : TsO w a c ts) (hl : Like (fun k => k = b) w w') (hb : w.heap[b]? = some (.cells z 26)) : TsO w' a c ts :=
  h.imp id (·.like2 (e' := 26) (by decide) (by decide) hl (fun k hk => ⟨z, _, hk ▸ hb⟩))
theorem machS_of {w0 w : World} {M : Nat} {r : Rec} {e : Ev} {a : Option Addr} {c : Nat} (he : Ext w0 w) (h0 : w0.heap.size ≤ M) (hh : w.heap[M]? = some (.cells #[.int .i64 (r).Kind, .int .i64 (r).Node, .int .i64 (r).State, .int .i64 (r).Count, .slice a (r).Ts.length c, .int .i64 (r).L.X, .int .i64 (r).L.Y, .int .i64 (r).L.T, .int .i64 (e).Kind, .int .i64 (e).ID, .int .i64 (e).X, .int .i64 (e).Y, .int .i64 (e).Time, .int .i64 (e).Wheel, .int .i64 0, .slice none 0 0] 82)) (ht : OwnT w w0.heap.size (.slice a r.Ts.length c) r.Ts) (hlt : ∀ k, (Value.slice a r.Ts.length c).ownBlock = some k → k < M) : MachS w0 w M r e := by
  obtain ⟨d, z, h1, h2⟩ := he.split hh h0
  exact ⟨d, a, c, h1, ⟨z, h2⟩, ht, fun p hp => hlt p.block (by rw [hp]; rfl)⟩
theorem feed_q (r : Rec) (e : Ev) (h : (!valid e || deaf r) = false) : feed r e = (lateM r e).getD (process r e) := feed_late r e h
set_option maxRecDepth 100000 in
set_option maxHeartbeats 4000000 in
theorem feed_r (r : Rec) (e : Ev) (hr : ROk r) (a : Option Addr) (cap : Nat) (w : World) (hrep : RepT w a r.Ts) :
    Calls Try.prog 20 #[.agg #[.int .i64 r.Kind, .int .i64 r.Node, .int .i64 r.State, .int .i64 r.Count, .slice a r.Ts.length cap, .int .i64 r.L.X, .int .i64 r.L.Y, .int .i64 r.L.T], .agg #[.int .i64 e.Kind, .int .i64 e.ID, .int .i64 e.X, .int .i64 e.Y, .int .i64 e.Time, .int .i64 e.Wheel]] w fun x w' =>
      ∃ a' c' v, x = .returned (.tuple #[.agg (recC (feed r e).1 a' c').toArray, .int .i64 (feed r e).2.1, v]) ∧ Ext w w' ∧ TsO w' a' c' (feed r e).1.Ts ∧ OwnG w' w.heap.size v (feed r e).2.2 := by
  have hcl := Lib.hid fun w h => clone_r r hr a cap w h
  by_cases hd : (!valid e || deaf r) = true
  · have hw : feed r e = (r, 0, []) := by simp only [feed, if_pos hd]
    rw [hw]
    have b : valid e = false ∨ valid e = true ∧ (r.State == 4) = true ∨ valid e = true ∧ (r.State == 4) = false ∧ (r.State == 2) = true ∧ cont r.Kind = false := by
      simp only [deaf, Bool.or_eq_true, Bool.not_eq_true', decide_eq_true_eq, Bool.and_eq_true] at hd
      simp only [beq_iff_eq, beq_eq_false_iff_ne]
      cases hv : valid e
      · exact .inl rfl
      · rcases hd with h | h | h
        · rw [hv] at h; cases h
        · exact .inr (.inl ⟨rfl, h⟩)
        · by_cases h4 : r.State = 4
          · exact .inr (.inl ⟨rfl, h4⟩)
          · exact .inr (.inr ⟨rfl, h4, h⟩)
    have hts := Lib.hid hr.ts
    clear hd hw hr
    rcases b with bv | ⟨bv, b4⟩ | ⟨bv, b4, b2, bc⟩
    all_goals
      go_enter Try.func20, Try.ntmps20
      go_wp2_with fail
      refine (hcl.out _ (hrep.ext (by (repeat (first | exact Ext.refl _ | assumption | refine Ext.alloc ?_ _ | refine Ext.ext ?_ _ | refine Ext.drew ?_))))).mono ?_
      rintro x w1 ⟨a1, c1, rfl, ⟨d1, rfl⟩, hown⟩
      have hrz : ∀ (A Z : Array Value) (d : Grow), TsO (((((w.alloc (.cells A 26)).alloc (.cells #[.int .i64 (e).Kind, .int .i64 (e).ID, .int .i64 (e).X, .int .i64 (e).Y, .int .i64 (e).Time, .int .i64 (e).Wheel] 44)).alloc (.cells Z 26)).ext d1).ext d) a1 c1 r.Ts := fun A Z d => .inr (((OwnT.weak hts.out (hown.like (S := fun k => k < w.heap.size + 3) (Y := ((((w.alloc (.cells A 26)).alloc (.cells #[.int .i64 (e).Kind, .int .i64 (e).ID, .int .i64 (e).X, .int .i64 (e).Y, .int .i64 (e).Time, .int .i64 (e).Wheel] 44)).alloc (.cells Z 26)).ext d1)) (by (repeat (first | exact Like.refl _ _ | refine Like.ext ?_ _ | refine Like.alloc ?_ _ | refine Like.swap ?_ (by simp <;> omega) _ _))) (by simp))).base (Nat.zero_le _)).ext (Ext.ext (Ext.refl _) d))
      replace hrz := Lib.hid hrz
      clear hown
      go_wp2_with (first | (go_at_call 33; refine (valid_any _ _ _ _ _ _ _).mono ?_; rintro e w' ⟨rfl, dv, rfl⟩) | (go_at_call 34; refine (cont_any _ _).mono ?_; rintro e w' ⟨rfl, rfl⟩))
      (refine bodyPost_ret (v := ?_) (by simp [results, Try.results20, go_sem]; rfl) rfl ?_)
      refine ⟨a1, c1, _, rfl, ?_, ?_, OwnG.none _ _⟩
      · (repeat (first | exact Ext.refl _ | assumption | refine Ext.alloc ?_ _ | refine Ext.ext ?_ _ | refine Ext.drew ?_))
      · exact hrz.out _ _ _
  · have hd' : (!valid e || deaf r) = false := by simpa using hd
    have hw := feed_q r e hd'
    have bv : valid e = true := by
      cases hv : valid e
      · rw [hv] at hd'; cases hd'
      · rfl
    have b : (r.State == 4) = false ∧ (r.State == 2) = false ∨ (r.State == 4) = false ∧ (r.State == 2) = true ∧ cont r.Kind = true := by
      simp only [bv, deaf, Bool.not_true, Bool.false_or, Bool.or_eq_false_iff, decide_eq_false_iff_not, Bool.and_eq_false_iff, Bool.not_eq_false'] at hd'
      simp only [beq_iff_eq, beq_eq_false_iff_ne]
      by_cases h2 : r.State = 2
      · exact .inr ⟨hd'.1, h2, by rcases hd'.2 with h | h; exact absurd h2 h; exact h⟩
      · exact .inl ⟨hd'.1, h2⟩
    clear hd hd'
    have bv2 := Lib.hid bv
    have hr2 := Lib.hid hr
    clear hr
    cases hl : lateM r e with
    | none =>
      have hw2 : feed r e = process r e := by rw [hw, hl]; rfl
      rw [hw2]
      have hlm := Lib.hid fun w0 w M h => late_m w0 w M r e hr2.out bv2.out h
      have hpm := Lib.hid fun w0 w M h => process_m w0 w M r e hr2.out bv2.out h
      rw [hl] at hlm
      obtain ⟨q, hqd⟩ : ∃ q, q = process r e := ⟨_, rfl⟩
      rw [← hqd] at hpm ⊢
      clear hqd hw2 hw hl
      rcases b with ⟨b4, b2⟩ | ⟨b4, b2, bc⟩
      all_goals
        go_enter Try.func20, Try.ntmps20
        go_wp2_with fail
        refine (hcl.out _ (hrep.ext (by (repeat (first | exact Ext.refl _ | assumption | refine Ext.alloc ?_ _ | refine Ext.ext ?_ _ | refine Ext.drew ?_))))).mono ?_
        rintro x w1 ⟨a1, c1, rfl, ⟨d1, rfl⟩, hown⟩
        replace hown := Lib.hid hown
        go_wp2_with (first | (go_at_call 33; refine (valid_any _ _ _ _ _ _ _).mono ?_; rintro e w' ⟨rfl, dv, rfl⟩) | (go_at_call 34; refine (cont_any _ _).mono ?_; rintro e w' ⟨rfl, rfl⟩))
        refine gen_at (p := fun W => Calls _ _ _ W _) ?_
        intro W hW
        have hms : Hid (MachS (((w.alloc (.cells #[.int .i64 (r).Kind, .int .i64 (r).Node, .int .i64 (r).State, .int .i64 (r).Count, .slice a1 (r).Ts.length c1, .int .i64 (r).L.X, .int .i64 (r).L.Y, .int .i64 (r).L.T] 26)).alloc (.cells #[.int .i64 (e).Kind, .int .i64 (e).ID, .int .i64 (e).X, .int .i64 (e).Y, .int .i64 (e).Time, .int .i64 (e).Wheel] 44)).alloc (.cells #[.int .i64 0, .int .i64 0, .int .i64 0, .int .i64 0, .slice none 0 0, .int .i64 0, .int .i64 0, .int .i64 0] 26)) W (w.heap.size + 1 + 1 + 1 + d1.size + dv.size) r e) := by
          have h1 : Ext (((w.alloc (.cells #[.int .i64 (r).Kind, .int .i64 (r).Node, .int .i64 (r).State, .int .i64 (r).Count, .slice a1 (r).Ts.length c1, .int .i64 (r).L.X, .int .i64 (r).L.Y, .int .i64 (r).L.T] 26)).alloc (.cells #[.int .i64 (e).Kind, .int .i64 (e).ID, .int .i64 (e).X, .int .i64 (e).Y, .int .i64 (e).Time, .int .i64 (e).Wheel] 44)).alloc (.cells #[.int .i64 0, .int .i64 0, .int .i64 0, .int .i64 0, .slice none 0 0, .int .i64 0, .int .i64 0, .int .i64 0] 26)) W := by
            rw [hW]
            (repeat (first | exact Ext.refl _ | assumption | refine Ext.alloc ?_ _ | refine Ext.ext ?_ _ | refine Ext.drew ?_))
          have h2 : W.heap[(w.heap.size + 1 + 1 + 1 + d1.size + dv.size)]? = some (.cells #[.int .i64 (r).Kind, .int .i64 (r).Node, .int .i64 (r).State, .int .i64 (r).Count, .slice a1 (r).Ts.length c1, .int .i64 (r).L.X, .int .i64 (r).L.Y, .int .i64 (r).L.T, .int .i64 (e).Kind, .int .i64 (e).ID, .int .i64 (e).X, .int .i64 (e).Y, .int .i64 (e).Time, .int .i64 (e).Wheel, .int .i64 0, .slice none 0 0] 82) := by
            rw [hW]
            refine heap_at' _ dv _ ?_ (Ext.refl _)
            simp only [World.size_ext, World.size_alloc]
          have h3 : OwnT W (((w.alloc (.cells #[.int .i64 (r).Kind, .int .i64 (r).Node, .int .i64 (r).State, .int .i64 (r).Count, .slice a1 (r).Ts.length c1, .int .i64 (r).L.X, .int .i64 (r).L.Y, .int .i64 (r).L.T] 26)).alloc (.cells #[.int .i64 (e).Kind, .int .i64 (e).ID, .int .i64 (e).X, .int .i64 (e).Y, .int .i64 (e).Time, .int .i64 (e).Wheel] 44)).alloc (.cells #[.int .i64 0, .int .i64 0, .int .i64 0, .int .i64 0, .slice none 0 0, .int .i64 0, .int .i64 0, .int .i64 0] 26)).heap.size (.slice a1 r.Ts.length c1) r.Ts := by
            have h4 := OwnT.base (B' := (((w.alloc (.cells #[.int .i64 (r).Kind, .int .i64 (r).Node, .int .i64 (r).State, .int .i64 (r).Count, .slice a1 (r).Ts.length c1, .int .i64 (r).L.X, .int .i64 (r).L.Y, .int .i64 (r).L.T] 26)).alloc (.cells #[.int .i64 (e).Kind, .int .i64 (e).ID, .int .i64 (e).X, .int .i64 (e).Y, .int .i64 (e).Time, .int .i64 (e).Wheel] 44)).alloc (.cells #[.int .i64 0, .int .i64 0, .int .i64 0, .int .i64 0, .slice none 0 0, .int .i64 0, .int .i64 0, .int .i64 0] 26)).heap.size) ((hown.out.like (S := fun k => k < w.heap.size + 3) (Y := ((((w.alloc (.cells #[.int .i64 (r).Kind, .int .i64 (r).Node, .int .i64 (r).State, .int .i64 (r).Count, .slice a1 (r).Ts.length c1, .int .i64 (r).L.X, .int .i64 (r).L.Y, .int .i64 (r).L.T] 26)).alloc (.cells #[.int .i64 (e).Kind, .int .i64 (e).ID, .int .i64 (e).X, .int .i64 (e).Y, .int .i64 (e).Time, .int .i64 (e).Wheel] 44)).alloc (.cells #[.int .i64 0, .int .i64 0, .int .i64 0, .int .i64 0, .slice none 0 0, .int .i64 0, .int .i64 0, .int .i64 0] 26)).ext d1)) (by (repeat (first | exact Like.refl _ _ | refine Like.ext ?_ _ | refine Like.alloc ?_ _ | refine Like.swap ?_ (by simp <;> omega) _ _))) (by simp))) (by simp)
            refine h4.ext ?_
            rw [hW]
            (repeat (first | exact Ext.refl _ | assumption | refine Ext.alloc ?_ _ | refine Ext.ext ?_ _ | refine Ext.drew ?_))
          refine machS_of h1 (by simp only [World.size_alloc]; omega) h2 h3 (fun k hk => ?_)
          have := (OwnT.lt hown.out k hk).2
          simp only [World.size_ext, World.size_alloc] at this
          omega
        clear hown hW
        refine (hlm.out (((w.alloc (.cells #[.int .i64 (r).Kind, .int .i64 (r).Node, .int .i64 (r).State, .int .i64 (r).Count, .slice a1 (r).Ts.length c1, .int .i64 (r).L.X, .int .i64 (r).L.Y, .int .i64 (r).L.T] 26)).alloc (.cells #[.int .i64 (e).Kind, .int .i64 (e).ID, .int .i64 (e).X, .int .i64 (e).Y, .int .i64 (e).Time, .int .i64 (e).Wheel] 44)).alloc (.cells #[.int .i64 0, .int .i64 0, .int .i64 0, .int .i64 0, .slice none 0 0, .int .i64 0, .int .i64 0, .int .i64 0] 26)) W (w.heap.size + 1 + 1 + 1 + d1.size + dv.size) (hms.out.weak hr2.out)).mono ?_
        rintro x w1 ⟨rfl, dl, rfl⟩
        go_wp2_with fail
        refine (hpm.out _ _ _ (hms.out.ext (by (repeat (first | exact Ext.refl _ | assumption | refine Ext.alloc ?_ _ | refine Ext.ext ?_ _ | refine Ext.drew ?_))))).mono ?_
        rintro x w2 ⟨rfl, hE⟩
        replace hE := Lib.hid hE
        clear hms
        go_wp2_with fail
        have hE2 : ∃ (x y : Grow) (a2 : Option Addr) (c2 : Nat) (va : Option Addr) (vn vc : Nat), w.heap.size + 1 + 1 + 1 + d1.size + dv.size = w.heap.size + 1 + 1 + 1 + x.size ∧ w2 = (((((w.alloc (.cells #[.int .i64 (r).Kind, .int .i64 (r).Node, .int .i64 (r).State, .int .i64 (r).Count, .slice a1 (r).Ts.length c1, .int .i64 (r).L.X, .int .i64 (r).L.Y, .int .i64 (r).L.T] 26)).alloc (.cells #[.int .i64 (e).Kind, .int .i64 (e).ID, .int .i64 (e).X, .int .i64 (e).Y, .int .i64 (e).Time, .int .i64 (e).Wheel] 44)).alloc (.cells #[.int .i64 0, .int .i64 0, .int .i64 0, .int .i64 0, .slice none 0 0, .int .i64 0, .int .i64 0, .int .i64 0] 26)).ext x).alloc (.cells #[.int .i64 (q.1).Kind, .int .i64 (q.1).Node, .int .i64 (q.1).State, .int .i64 (q.1).Count, .slice a2 (q.1).Ts.length c2, .int .i64 (q.1).L.X, .int .i64 (q.1).L.Y, .int .i64 (q.1).L.T, .int .i64 (e).Kind, .int .i64 (e).ID, .int .i64 (e).X, .int .i64 (e).Y, .int .i64 (e).Time, .int .i64 (e).Wheel, .int .i64 q.2.1, .slice va vn vc] 82)).ext y ∧ (q.1.Ts = [] ∨ OwnR w2 (((w.alloc (.cells #[.int .i64 (r).Kind, .int .i64 (r).Node, .int .i64 (r).State, .int .i64 (r).Count, .slice a1 (r).Ts.length c1, .int .i64 (r).L.X, .int .i64 (r).L.Y, .int .i64 (r).L.T] 26)).alloc (.cells #[.int .i64 (e).Kind, .int .i64 (e).ID, .int .i64 (e).X, .int .i64 (e).Y, .int .i64 (e).Time, .int .i64 (e).Wheel] 44)).alloc (.cells #[.int .i64 0, .int .i64 0, .int .i64 0, .int .i64 0, .slice none 0 0, .int .i64 0, .int .i64 0, .int .i64 0] 26)).heap.size (.slice a2 q.1.Ts.length c2) q.1.Ts) ∧ OwnG w2 (((w.alloc (.cells #[.int .i64 (r).Kind, .int .i64 (r).Node, .int .i64 (r).State, .int .i64 (r).Count, .slice a1 (r).Ts.length c1, .int .i64 (r).L.X, .int .i64 (r).L.Y, .int .i64 (r).L.T] 26)).alloc (.cells #[.int .i64 (e).Kind, .int .i64 (e).ID, .int .i64 (e).X, .int .i64 (e).Y, .int .i64 (e).Time, .int .i64 (e).Wheel] 44)).alloc (.cells #[.int .i64 0, .int .i64 0, .int .i64 0, .int .i64 0, .slice none 0 0, .int .i64 0, .int .i64 0, .int .i64 0] 26)).heap.size (.slice va vn vc) q.2.2 := by
          obtain ⟨a2, c2, o2, h1, h2, h3, h4⟩ := hE.out
          obtain ⟨va, vn, vc, rfl⟩ := h4.form
          obtain ⟨x, y, h5, h6⟩ := h1.split h2 (by simp only [World.size_alloc]; omega)
          simp only [World.size_alloc] at h5
          exact ⟨x, y, a2, c2, va, vn, vc, h5, h6, h3, h4⟩
        clear hE
        obtain ⟨x, y, a2, c2, va, vn, vc, hMx, rfl, hT, hG⟩ := hE2
        replace hT := Lib.hid hT
        replace hG := Lib.hid hG
        simp only [hMx]
        (refine wp_region_calm_z (fun z => ((((((w.alloc (.cells #[.int .i64 (r).Kind, .int .i64 (r).Node, .int .i64 (r).State, .int .i64 (r).Count, .slice a1 (r).Ts.length c1, .int .i64 (r).L.X, .int .i64 (r).L.Y, .int .i64 (r).L.T] 26)).alloc (.cells #[.int .i64 (e).Kind, .int .i64 (e).ID, .int .i64 (e).X, .int .i64 (e).Y, .int .i64 (e).Time, .int .i64 (e).Wheel] 44)).alloc (.cells z 26)).ext x).alloc (.cells #[.int .i64 (q.1).Kind, .int .i64 (q.1).Node, .int .i64 (q.1).State, .int .i64 (q.1).Count, .slice a2 (q.1).Ts.length c2, .int .i64 (q.1).L.X, .int .i64 (q.1).L.Y, .int .i64 (q.1).L.T, .int .i64 (e).Kind, .int .i64 (e).ID, .int .i64 (e).X, .int .i64 (e).Y, .int .i64 (e).Time, .int .i64 (e).Wheel, .int .i64 q.2.1, .slice va vn vc] 82)).ext y)) 12 [0, 1, 2, 3, 4, 5, 6, 7, 8, 9, 10, 11] [] [13] [14] #[.int .i64 (q.1).Kind, .int .i64 (q.1).Node, .int .i64 (q.1).State, .int .i64 (q.1).Count, .slice a2 (q.1).Ts.length c2, .int .i64 (q.1).L.X, .int .i64 (q.1).L.Y, .int .i64 (q.1).L.T] (by kernel_rfl) (by kernel_rfl) (by simp only [List.filterMap_cons, List.filterMap_nil, List.getElem?_toArray, List.getElem?_cons_succ, List.getElem?_cons_zero]; try exact rfl) (by simp only [List.filterMap_cons, List.filterMap_nil, List.getElem?_toArray, List.getElem?_cons_succ, List.getElem?_cons_zero]; try exact rfl) (by simp only [List.filterMap_cons, List.filterMap_nil, List.getElem?_toArray, List.getElem?_cons_succ, List.getElem?_cons_zero]; try exact rfl) (by intro z; simp) ?_; (repeat (first | (refine ql_plain rfl rfl ?_; intro K hK; go_big_quiet_op; go_big_quiet_on) | (refine ql_nilCheck rfl rfl rfl ?_; intro K hK; simp only [Act.put, List.setIfInBounds_toArray, List.set_cons_succ, List.set_cons_zero]; go_big_quiet_on) | fail | (refine ql_skip rfl ?_; intro K hK; simp only [Act.put, List.setIfInBounds_toArray, List.set_cons_succ, List.set_cons_zero]; go_big_quiet_on))); refine ql_nil ?_; refine ⟨?_, ?_⟩; (focus (refine wo1z (Wf := (fun z => ((((((w.alloc (.cells #[.int .i64 (r).Kind, .int .i64 (r).Node, .int .i64 (r).State, .int .i64 (r).Count, .slice a1 (r).Ts.length c1, .int .i64 (r).L.X, .int .i64 (r).L.Y, .int .i64 (r).L.T] 26)).alloc (.cells #[.int .i64 (e).Kind, .int .i64 (e).ID, .int .i64 (e).X, .int .i64 (e).Y, .int .i64 (e).Time, .int .i64 (e).Wheel] 44)).alloc (.cells z 26)).ext x).alloc (.cells #[.int .i64 (q.1).Kind, .int .i64 (q.1).Node, .int .i64 (q.1).State, .int .i64 (q.1).Count, .slice a2 (q.1).Ts.length c2, .int .i64 (q.1).L.X, .int .i64 (q.1).L.Y, .int .i64 (q.1).L.T, .int .i64 (e).Kind, .int .i64 (e).ID, .int .i64 (e).X, .int .i64 (e).Y, .int .i64 (e).Time, .int .i64 (e).Wheel, .int .i64 q.2.1, .slice va vn vc] 82)).ext y))) (z1 := #[.int .i64 (q.1).Kind, .int .i64 (q.1).Node, .int .i64 (q.1).State, .int .i64 (q.1).Count, .slice a2 (q.1).Ts.length c2, .int .i64 (q.1).L.X, .int .i64 (q.1).L.Y, .int .i64 (q.1).L.T]) ?_ (by simp only [List.getElem?_toArray, List.getElem?_cons_succ, List.getElem?_cons_zero]; try exact rfl) ?_ ?_ ?_; intro z; simp; rfl; rfl; intro d; go_simp)))
        refine mw0 ?_
        (repeat (first | (refine pl_plain rfl rfl ?_; intro K hK; go_big_quiet_op; go_big_quiet_on) | (refine pl_nilCheck rfl rfl rfl ?_; intro K hK; simp only [Act.put, List.setIfInBounds_toArray, List.set_cons_succ, List.set_cons_zero]; go_big_quiet_on))); refine pl_nil ?_
        rintro w1 ⟨d4, rfl⟩ -
        go_wp2; refine only_normal ?_
        go_wp2
        (refine bodyPost_ret (v := ?_) (by simp [results, Try.results20, go_sem]; rfl) rfl ?_)
        refine ⟨a2, c2, .slice va vn vc, rfl, ?_, ?_, ?_⟩
        · (repeat (first | exact Ext.refl _ | assumption | refine Ext.alloc ?_ _ | refine Ext.ext ?_ _ | refine Ext.drew ?_))
        · rcases hT.out with h | h
          · exact .inl h
          · exact .inr (((h.like2 (S := fun k => k = ((w.alloc (.cells #[.int .i64 (r).Kind, .int .i64 (r).Node, .int .i64 (r).State, .int .i64 (r).Count, .slice a1 (r).Ts.length c1, .int .i64 (r).L.X, .int .i64 (r).L.Y, .int .i64 (r).L.T] 26)).alloc (.cells #[.int .i64 (e).Kind, .int .i64 (e).ID, .int .i64 (e).X, .int .i64 (e).Y, .int .i64 (e).Time, .int .i64 (e).Wheel] 44)).heap.size) (e' := 26) (by decide) (by decide) (by (repeat (first | exact Like.refl _ _ | refine Like.ext ?_ _ | refine Like.alloc ?_ _ | refine Like.swap ?_ (by simp <;> omega) _ _))) (fun b hb => ⟨_, (0, 0), by subst hb; exact heap_some_ext (heap_alloc_new _ _) (by (repeat (first | exact Ext.refl _ | assumption | refine Ext.alloc ?_ _ | refine Ext.ext ?_ _ | refine Ext.drew ?_)))⟩)).base (Nat.zero_le _)).ext (Ext.ext (Ext.refl _) d4))
        · refine ⟨ownsRow_base (ownsRow_ext (ownsRow_like (S := fun k => k = ((w.alloc (.cells #[.int .i64 (r).Kind, .int .i64 (r).Node, .int .i64 (r).State, .int .i64 (r).Count, .slice a1 (r).Ts.length c1, .int .i64 (r).L.X, .int .i64 (r).L.Y, .int .i64 (r).L.T] 26)).alloc (.cells #[.int .i64 (e).Kind, .int .i64 (e).ID, .int .i64 (e).X, .int .i64 (e).Y, .int .i64 (e).Time, .int .i64 (e).Wheel] 44)).heap.size) hG.out.1 (by (repeat (first | exact Like.refl _ _ | refine Like.ext ?_ _ | refine Like.alloc ?_ _ | refine Like.swap ?_ (by simp <;> omega) _ _))) ?_) (Ext.ext (Ext.refl _) d4)) (by simp <;> omega), hG.out.2⟩
          intro b hb hs
          exact own_ne' hG.out.1 (heap_some_ext (heap_alloc_new _ _) (by (repeat (first | exact Ext.refl _ | assumption | refine Ext.alloc ?_ _ | refine Ext.ext ?_ _ | refine Ext.drew ?_)))) (by decide) b hb hs
    | some q =>
      have hw2 : feed r e = q := by rw [hw, hl]; rfl
      rw [hw2]
      have hlm := Lib.hid fun w0 w M h => late_m w0 w M r e hr2.out bv2.out h
      rw [hl] at hlm
      clear hw2 hw hl
      rcases b with ⟨b4, b2⟩ | ⟨b4, b2, bc⟩
      all_goals
        go_enter Try.func20, Try.ntmps20
        go_wp2_with fail
        refine (hcl.out _ (hrep.ext (by (repeat (first | exact Ext.refl _ | assumption | refine Ext.alloc ?_ _ | refine Ext.ext ?_ _ | refine Ext.drew ?_))))).mono ?_
        rintro x w1 ⟨a1, c1, rfl, ⟨d1, rfl⟩, hown⟩
        replace hown := Lib.hid hown
        go_wp2_with (first | (go_at_call 33; refine (valid_any _ _ _ _ _ _ _).mono ?_; rintro e w' ⟨rfl, dv, rfl⟩) | (go_at_call 34; refine (cont_any _ _).mono ?_; rintro e w' ⟨rfl, rfl⟩))
        refine gen_at (p := fun W => Calls _ _ _ W _) ?_
        intro W hW
        have hms : Hid (MachS (((w.alloc (.cells #[.int .i64 (r).Kind, .int .i64 (r).Node, .int .i64 (r).State, .int .i64 (r).Count, .slice a1 (r).Ts.length c1, .int .i64 (r).L.X, .int .i64 (r).L.Y, .int .i64 (r).L.T] 26)).alloc (.cells #[.int .i64 (e).Kind, .int .i64 (e).ID, .int .i64 (e).X, .int .i64 (e).Y, .int .i64 (e).Time, .int .i64 (e).Wheel] 44)).alloc (.cells #[.int .i64 0, .int .i64 0, .int .i64 0, .int .i64 0, .slice none 0 0, .int .i64 0, .int .i64 0, .int .i64 0] 26)) W (w.heap.size + 1 + 1 + 1 + d1.size + dv.size) r e) := by
          have h1 : Ext (((w.alloc (.cells #[.int .i64 (r).Kind, .int .i64 (r).Node, .int .i64 (r).State, .int .i64 (r).Count, .slice a1 (r).Ts.length c1, .int .i64 (r).L.X, .int .i64 (r).L.Y, .int .i64 (r).L.T] 26)).alloc (.cells #[.int .i64 (e).Kind, .int .i64 (e).ID, .int .i64 (e).X, .int .i64 (e).Y, .int .i64 (e).Time, .int .i64 (e).Wheel] 44)).alloc (.cells #[.int .i64 0, .int .i64 0, .int .i64 0, .int .i64 0, .slice none 0 0, .int .i64 0, .int .i64 0, .int .i64 0] 26)) W := by
            rw [hW]
            (repeat (first | exact Ext.refl _ | assumption | refine Ext.alloc ?_ _ | refine Ext.ext ?_ _ | refine Ext.drew ?_))
          have h2 : W.heap[(w.heap.size + 1 + 1 + 1 + d1.size + dv.size)]? = some (.cells #[.int .i64 (r).Kind, .int .i64 (r).Node, .int .i64 (r).State, .int .i64 (r).Count, .slice a1 (r).Ts.length c1, .int .i64 (r).L.X, .int .i64 (r).L.Y, .int .i64 (r).L.T, .int .i64 (e).Kind, .int .i64 (e).ID, .int .i64 (e).X, .int .i64 (e).Y, .int .i64 (e).Time, .int .i64 (e).Wheel, .int .i64 0, .slice none 0 0] 82) := by
            rw [hW]
            refine heap_at' _ dv _ ?_ (Ext.refl _)
            simp only [World.size_ext, World.size_alloc]
          have h3 : OwnT W (((w.alloc (.cells #[.int .i64 (r).Kind, .int .i64 (r).Node, .int .i64 (r).State, .int .i64 (r).Count, .slice a1 (r).Ts.length c1, .int .i64 (r).L.X, .int .i64 (r).L.Y, .int .i64 (r).L.T] 26)).alloc (.cells #[.int .i64 (e).Kind, .int .i64 (e).ID, .int .i64 (e).X, .int .i64 (e).Y, .int .i64 (e).Time, .int .i64 (e).Wheel] 44)).alloc (.cells #[.int .i64 0, .int .i64 0, .int .i64 0, .int .i64 0, .slice none 0 0, .int .i64 0, .int .i64 0, .int .i64 0] 26)).heap.size (.slice a1 r.Ts.length c1) r.Ts := by
            have h4 := OwnT.base (B' := (((w.alloc (.cells #[.int .i64 (r).Kind, .int .i64 (r).Node, .int .i64 (r).State, .int .i64 (r).Count, .slice a1 (r).Ts.length c1, .int .i64 (r).L.X, .int .i64 (r).L.Y, .int .i64 (r).L.T] 26)).alloc (.cells #[.int .i64 (e).Kind, .int .i64 (e).ID, .int .i64 (e).X, .int .i64 (e).Y, .int .i64 (e).Time, .int .i64 (e).Wheel] 44)).alloc (.cells #[.int .i64 0, .int .i64 0, .int .i64 0, .int .i64 0, .slice none 0 0, .int .i64 0, .int .i64 0, .int .i64 0] 26)).heap.size) ((hown.out.like (S := fun k => k < w.heap.size + 3) (Y := ((((w.alloc (.cells #[.int .i64 (r).Kind, .int .i64 (r).Node, .int .i64 (r).State, .int .i64 (r).Count, .slice a1 (r).Ts.length c1, .int .i64 (r).L.X, .int .i64 (r).L.Y, .int .i64 (r).L.T] 26)).alloc (.cells #[.int .i64 (e).Kind, .int .i64 (e).ID, .int .i64 (e).X, .int .i64 (e).Y, .int .i64 (e).Time, .int .i64 (e).Wheel] 44)).alloc (.cells #[.int .i64 0, .int .i64 0, .int .i64 0, .int .i64 0, .slice none 0 0, .int .i64 0, .int .i64 0, .int .i64 0] 26)).ext d1)) (by (repeat (first | exact Like.refl _ _ | refine Like.ext ?_ _ | refine Like.alloc ?_ _ | refine Like.swap ?_ (by simp <;> omega) _ _))) (by simp))) (by simp)
            refine h4.ext ?_
            rw [hW]
            (repeat (first | exact Ext.refl _ | assumption | refine Ext.alloc ?_ _ | refine Ext.ext ?_ _ | refine Ext.drew ?_))
          refine machS_of h1 (by simp only [World.size_alloc]; omega) h2 h3 (fun k hk => ?_)
          have := (OwnT.lt hown.out k hk).2
          simp only [World.size_ext, World.size_alloc] at this
          omega
        clear hown hW
        refine (hlm.out (((w.alloc (.cells #[.int .i64 (r).Kind, .int .i64 (r).Node, .int .i64 (r).State, .int .i64 (r).Count, .slice a1 (r).Ts.length c1, .int .i64 (r).L.X, .int .i64 (r).L.Y, .int .i64 (r).L.T] 26)).alloc (.cells #[.int .i64 (e).Kind, .int .i64 (e).ID, .int .i64 (e).X, .int .i64 (e).Y, .int .i64 (e).Time, .int .i64 (e).Wheel] 44)).alloc (.cells #[.int .i64 0, .int .i64 0, .int .i64 0, .int .i64 0, .slice none 0 0, .int .i64 0, .int .i64 0, .int .i64 0] 26)) W (w.heap.size + 1 + 1 + 1 + d1.size + dv.size) (hms.out.weak hr2.out)).mono ?_
        rintro x w2 ⟨rfl, hE⟩
        replace hE := Lib.hid (Mach.fin hE)
        clear hms
        go_wp2_with fail
        have hE2 : ∃ (x y : Grow) (a2 : Option Addr) (c2 : Nat) (va : Option Addr) (vn vc : Nat), w.heap.size + 1 + 1 + 1 + d1.size + dv.size = w.heap.size + 1 + 1 + 1 + x.size ∧ w2 = (((((w.alloc (.cells #[.int .i64 (r).Kind, .int .i64 (r).Node, .int .i64 (r).State, .int .i64 (r).Count, .slice a1 (r).Ts.length c1, .int .i64 (r).L.X, .int .i64 (r).L.Y, .int .i64 (r).L.T] 26)).alloc (.cells #[.int .i64 (e).Kind, .int .i64 (e).ID, .int .i64 (e).X, .int .i64 (e).Y, .int .i64 (e).Time, .int .i64 (e).Wheel] 44)).alloc (.cells #[.int .i64 0, .int .i64 0, .int .i64 0, .int .i64 0, .slice none 0 0, .int .i64 0, .int .i64 0, .int .i64 0] 26)).ext x).alloc (.cells #[.int .i64 (q.1).Kind, .int .i64 (q.1).Node, .int .i64 (q.1).State, .int .i64 (q.1).Count, .slice a2 (q.1).Ts.length c2, .int .i64 (q.1).L.X, .int .i64 (q.1).L.Y, .int .i64 (q.1).L.T, .int .i64 (e).Kind, .int .i64 (e).ID, .int .i64 (e).X, .int .i64 (e).Y, .int .i64 (e).Time, .int .i64 (e).Wheel, .int .i64 q.2.1, .slice va vn vc] 82)).ext y ∧ (q.1.Ts = [] ∨ OwnR w2 (((w.alloc (.cells #[.int .i64 (r).Kind, .int .i64 (r).Node, .int .i64 (r).State, .int .i64 (r).Count, .slice a1 (r).Ts.length c1, .int .i64 (r).L.X, .int .i64 (r).L.Y, .int .i64 (r).L.T] 26)).alloc (.cells #[.int .i64 (e).Kind, .int .i64 (e).ID, .int .i64 (e).X, .int .i64 (e).Y, .int .i64 (e).Time, .int .i64 (e).Wheel] 44)).alloc (.cells #[.int .i64 0, .int .i64 0, .int .i64 0, .int .i64 0, .slice none 0 0, .int .i64 0, .int .i64 0, .int .i64 0] 26)).heap.size (.slice a2 q.1.Ts.length c2) q.1.Ts) ∧ OwnG w2 (((w.alloc (.cells #[.int .i64 (r).Kind, .int .i64 (r).Node, .int .i64 (r).State, .int .i64 (r).Count, .slice a1 (r).Ts.length c1, .int .i64 (r).L.X, .int .i64 (r).L.Y, .int .i64 (r).L.T] 26)).alloc (.cells #[.int .i64 (e).Kind, .int .i64 (e).ID, .int .i64 (e).X, .int .i64 (e).Y, .int .i64 (e).Time, .int .i64 (e).Wheel] 44)).alloc (.cells #[.int .i64 0, .int .i64 0, .int .i64 0, .int .i64 0, .slice none 0 0, .int .i64 0, .int .i64 0, .int .i64 0] 26)).heap.size (.slice va vn vc) q.2.2 := by
          obtain ⟨a2, c2, o2, h1, h2, h3, h4⟩ := hE.out
          obtain ⟨va, vn, vc, rfl⟩ := h4.form
          obtain ⟨x, y, h5, h6⟩ := h1.split h2 (by simp only [World.size_alloc]; omega)
          simp only [World.size_alloc] at h5
          exact ⟨x, y, a2, c2, va, vn, vc, h5, h6, h3, h4⟩
        clear hE
        obtain ⟨x, y, a2, c2, va, vn, vc, hMx, rfl, hT, hG⟩ := hE2
        replace hT := Lib.hid hT
        replace hG := Lib.hid hG
        simp only [hMx]
        (refine wp_region_calm_z (fun z => ((((((w.alloc (.cells #[.int .i64 (r).Kind, .int .i64 (r).Node, .int .i64 (r).State, .int .i64 (r).Count, .slice a1 (r).Ts.length c1, .int .i64 (r).L.X, .int .i64 (r).L.Y, .int .i64 (r).L.T] 26)).alloc (.cells #[.int .i64 (e).Kind, .int .i64 (e).ID, .int .i64 (e).X, .int .i64 (e).Y, .int .i64 (e).Time, .int .i64 (e).Wheel] 44)).alloc (.cells z 26)).ext x).alloc (.cells #[.int .i64 (q.1).Kind, .int .i64 (q.1).Node, .int .i64 (q.1).State, .int .i64 (q.1).Count, .slice a2 (q.1).Ts.length c2, .int .i64 (q.1).L.X, .int .i64 (q.1).L.Y, .int .i64 (q.1).L.T, .int .i64 (e).Kind, .int .i64 (e).ID, .int .i64 (e).X, .int .i64 (e).Y, .int .i64 (e).Time, .int .i64 (e).Wheel, .int .i64 q.2.1, .slice va vn vc] 82)).ext y)) 12 [0, 1, 2, 3, 4, 5, 6, 7, 8, 9, 10, 11] [] [13] [14] #[.int .i64 (q.1).Kind, .int .i64 (q.1).Node, .int .i64 (q.1).State, .int .i64 (q.1).Count, .slice a2 (q.1).Ts.length c2, .int .i64 (q.1).L.X, .int .i64 (q.1).L.Y, .int .i64 (q.1).L.T] (by kernel_rfl) (by kernel_rfl) (by simp only [List.filterMap_cons, List.filterMap_nil, List.getElem?_toArray, List.getElem?_cons_succ, List.getElem?_cons_zero]; try exact rfl) (by simp only [List.filterMap_cons, List.filterMap_nil, List.getElem?_toArray, List.getElem?_cons_succ, List.getElem?_cons_zero]; try exact rfl) (by simp only [List.filterMap_cons, List.filterMap_nil, List.getElem?_toArray, List.getElem?_cons_succ, List.getElem?_cons_zero]; try exact rfl) (by intro z; simp) ?_; (repeat (first | (refine ql_plain rfl rfl ?_; intro K hK; go_big_quiet_op; go_big_quiet_on) | (refine ql_nilCheck rfl rfl rfl ?_; intro K hK; simp only [Act.put, List.setIfInBounds_toArray, List.set_cons_succ, List.set_cons_zero]; go_big_quiet_on) | fail | (refine ql_skip rfl ?_; intro K hK; simp only [Act.put, List.setIfInBounds_toArray, List.set_cons_succ, List.set_cons_zero]; go_big_quiet_on))); refine ql_nil ?_; refine ⟨?_, ?_⟩; (focus (refine wo1z (Wf := (fun z => ((((((w.alloc (.cells #[.int .i64 (r).Kind, .int .i64 (r).Node, .int .i64 (r).State, .int .i64 (r).Count, .slice a1 (r).Ts.length c1, .int .i64 (r).L.X, .int .i64 (r).L.Y, .int .i64 (r).L.T] 26)).alloc (.cells #[.int .i64 (e).Kind, .int .i64 (e).ID, .int .i64 (e).X, .int .i64 (e).Y, .int .i64 (e).Time, .int .i64 (e).Wheel] 44)).alloc (.cells z 26)).ext x).alloc (.cells #[.int .i64 (q.1).Kind, .int .i64 (q.1).Node, .int .i64 (q.1).State, .int .i64 (q.1).Count, .slice a2 (q.1).Ts.length c2, .int .i64 (q.1).L.X, .int .i64 (q.1).L.Y, .int .i64 (q.1).L.T, .int .i64 (e).Kind, .int .i64 (e).ID, .int .i64 (e).X, .int .i64 (e).Y, .int .i64 (e).Time, .int .i64 (e).Wheel, .int .i64 q.2.1, .slice va vn vc] 82)).ext y))) (z1 := #[.int .i64 (q.1).Kind, .int .i64 (q.1).Node, .int .i64 (q.1).State, .int .i64 (q.1).Count, .slice a2 (q.1).Ts.length c2, .int .i64 (q.1).L.X, .int .i64 (q.1).L.Y, .int .i64 (q.1).L.T]) ?_ (by simp only [List.getElem?_toArray, List.getElem?_cons_succ, List.getElem?_cons_zero]; try exact rfl) ?_ ?_ ?_; intro z; simp; rfl; rfl; intro d; go_simp)))
        refine mw0 ?_
        (repeat (first | (refine pl_plain rfl rfl ?_; intro K hK; go_big_quiet_op; go_big_quiet_on) | (refine pl_nilCheck rfl rfl rfl ?_; intro K hK; simp only [Act.put, List.setIfInBounds_toArray, List.set_cons_succ, List.set_cons_zero]; go_big_quiet_on))); refine pl_nil ?_
        rintro w1 ⟨d4, rfl⟩ -
        go_wp2; refine only_normal ?_
        go_wp2
        (refine bodyPost_ret (v := ?_) (by simp [results, Try.results20, go_sem]; rfl) rfl ?_)
        refine ⟨a2, c2, .slice va vn vc, rfl, ?_, ?_, ?_⟩
        · (repeat (first | exact Ext.refl _ | assumption | refine Ext.alloc ?_ _ | refine Ext.ext ?_ _ | refine Ext.drew ?_))
        · rcases hT.out with h | h
          · exact .inl h
          · exact .inr (((h.like2 (S := fun k => k = ((w.alloc (.cells #[.int .i64 (r).Kind, .int .i64 (r).Node, .int .i64 (r).State, .int .i64 (r).Count, .slice a1 (r).Ts.length c1, .int .i64 (r).L.X, .int .i64 (r).L.Y, .int .i64 (r).L.T] 26)).alloc (.cells #[.int .i64 (e).Kind, .int .i64 (e).ID, .int .i64 (e).X, .int .i64 (e).Y, .int .i64 (e).Time, .int .i64 (e).Wheel] 44)).heap.size) (e' := 26) (by decide) (by decide) (by (repeat (first | exact Like.refl _ _ | refine Like.ext ?_ _ | refine Like.alloc ?_ _ | refine Like.swap ?_ (by simp <;> omega) _ _))) (fun b hb => ⟨_, (0, 0), by subst hb; exact heap_some_ext (heap_alloc_new _ _) (by (repeat (first | exact Ext.refl _ | assumption | refine Ext.alloc ?_ _ | refine Ext.ext ?_ _ | refine Ext.drew ?_)))⟩)).base (Nat.zero_le _)).ext (Ext.ext (Ext.refl _) d4))
        · refine ⟨ownsRow_base (ownsRow_ext (ownsRow_like (S := fun k => k = ((w.alloc (.cells #[.int .i64 (r).Kind, .int .i64 (r).Node, .int .i64 (r).State, .int .i64 (r).Count, .slice a1 (r).Ts.length c1, .int .i64 (r).L.X, .int .i64 (r).L.Y, .int .i64 (r).L.T] 26)).alloc (.cells #[.int .i64 (e).Kind, .int .i64 (e).ID, .int .i64 (e).X, .int .i64 (e).Y, .int .i64 (e).Time, .int .i64 (e).Wheel] 44)).heap.size) hG.out.1 (by (repeat (first | exact Like.refl _ _ | refine Like.ext ?_ _ | refine Like.alloc ?_ _ | refine Like.swap ?_ (by simp <;> omega) _ _))) ?_) (Ext.ext (Ext.refl _) d4)) (by simp <;> omega), hG.out.2⟩
          intro b hb hs
          exact own_ne' hG.out.1 (heap_some_ext (heap_alloc_new _ _) (by (repeat (first | exact Ext.refl _ | assumption | refine Ext.alloc ?_ _ | refine Ext.ext ?_ _ | refine Ext.drew ?_)))) (by decide) b hb hs
end Go.Proofs.Ytendgmnbnnkpnaa.G
