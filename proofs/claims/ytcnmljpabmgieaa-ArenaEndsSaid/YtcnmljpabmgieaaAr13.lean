/- The sanity check of the arena's laws. -/
import Derived.Test.YtcnmljpabmgieaaAr9
import Derived.Test.YtcnmljpabmgieaaAr12
import Derived.WalkKit
import Derived.WalkSpells
import Derived.WalkLawsBesides
import Derived.Deep.QuietTactic
import Derived.BigQuiet
import Derived.BigRegion
import Derived.Lib.Hide
import Derived.Deep.RegionWith
set_option linter.unusedSimpArgs false
set_option linter.unusedVariables false
namespace Go
open Go.RowKit
/-- a record of eight cells is stored -/
theorem put8 {w : World} {R : Nat} {T : TypeId} {u0 u1 u2 u3 u4 u5 u6 u7 v0 v1 v2 v3 v4 v5 v6 v7 : Value} (h : w.heap[R]? = some (.cells #[u0, u1, u2, u3, u4, u5, u6, u7] T)) :
    w.grownBy ((((((((w.setCell ⟨R, 0, none⟩ v0).setCell ⟨R, 1, none⟩ v1).setCell ⟨R, 2, none⟩ v2).setCell ⟨R, 3, none⟩ v3).setCell ⟨R, 4, none⟩ v4).setCell ⟨R, 5, none⟩ v5).setCell ⟨R, 6, none⟩ v6).setCell ⟨R, 7, none⟩ v7) (some R) ∧
    ((((((((w.setCell ⟨R, 0, none⟩ v0).setCell ⟨R, 1, none⟩ v1).setCell ⟨R, 2, none⟩ v2).setCell ⟨R, 3, none⟩ v3).setCell ⟨R, 4, none⟩ v4).setCell ⟨R, 5, none⟩ v5).setCell ⟨R, 6, none⟩ v6).setCell ⟨R, 7, none⟩ v7).heap[R]? = some (.cells #[v0, v1, v2, v3, v4, v5, v6, v7] T) := by
  refine ⟨?_, ?_⟩
  · have g0 := grown_put w R 0 v0
    have g1 := grown_trans g0 (grown_put _ R 1 v1)
    have g2 := grown_trans g1 (grown_put _ R 2 v2)
    have g3 := grown_trans g2 (grown_put _ R 3 v3)
    have g4 := grown_trans g3 (grown_put _ R 4 v4)
    have g5 := grown_trans g4 (grown_put _ R 5 v5)
    have g6 := grown_trans g5 (grown_put _ R 6 v6)
    have g7 := grown_trans g6 (grown_put _ R 7 v7)
    exact g7
  · have h0 := setCell_heap (i := 0) (v := v0) h
    have h1 := setCell_heap (i := 1) (v := v1) h0
    have h2 := setCell_heap (i := 2) (v := v2) h1
    have h3 := setCell_heap (i := 3) (v := v3) h2
    have h4 := setCell_heap (i := 4) (v := v4) h3
    have h5 := setCell_heap (i := 5) (v := v5) h4
    have h6 := setCell_heap (i := 6) (v := v6) h5
    have h7 := setCell_heap (i := 7) (v := v7) h6
    simp only [List.setIfInBounds_toArray, List.set_cons_zero, List.set_cons_succ] at h7
    exact h7
end Go
namespace Go.Proofs.Ytcnmljpabmgieaa.R
open Go.RowKit
theorem row_kept {w w' : World} {row : Option Nat} {B size k : Nat} {T e' : TypeId} {v : Value} {xs : List Value} (h : w.ownsRow B T size v k xs) (hg : w.grownBy w' row) (h1 : T ≠ e') (hb : ∀ b, row = some b → ∃ cur fr, w.heap[b]? = some (.cells cur e' fr)) : w'.ownsRow B T size v k xs := by
  refine h.kept hg ?_
  rcases hv : v.ownBlock with _ | b
  · exact .inl rfl
  · refine .inr fun e => ?_
    obtain ⟨cur, fr, hx⟩ := hb b e.symm
    exact own_other h hx h1 b hv rfl
theorem OI.grownA {B : Nat} {w w' : World} {row : Option Nat} {a : Option Addr} {c : Nat} {l : List Int} (h : OI B w a c l) (hg : w.grownBy w' row) (hb : ∀ b, row = some b → ∃ cur fr, w.heap[b]? = some (.cells cur 24 fr)) : OI B w' a c l := row_kept h hg (by decide) hb
theorem OV.grownA {w w' : World} {row : Option Nat} {a : Option Addr} {c : Nat} {l : List Vd} (h : OV w a c l) (hg : w.grownBy w' row) (hb : ∀ b, row = some b → ∃ cur fr, w.heap[b]? = some (.cells cur 24 fr)) : OV w' a c l := row_kept h hg (by decide) hb
/-- an arena lies in a variable -/
def ArAt (W : World) (V : Nat) (a : Arn) : Prop := ∃ la lc ha hc, W.heap[V]? = some (.cells #[.int .i64 (a).Members, .slice la (a).Left.length lc, .bool (a).Open, .int .i64 (a).Eager, .slice ha (a).Holds.length hc, .bool (a).Swept, .int .i64 (a).Winner, .bool (a).Done] 24) ∧ OI 0 W la lc a.Left ∧ OI 0 W ha hc a.Holds
theorem ArAt.ext {W W' : World} {V : Nat} {a : Arn} (h : ArAt W V a) (he : Ext W W') : ArAt W' V a := by
  obtain ⟨la, lc, ha, hc, h1, h2, h3⟩ := h
  exact ⟨la, lc, ha, hc, heap_some_ext h1 he, h2.ext he, h3.ext he⟩
theorem vd_cells {w : World} {va : Option Addr} {vc : Nat} {x y : Vd} (h : OV w va vc [x, y]) : ∃ g, va = some ⟨g, 0, none⟩ ∧ w.cell? ⟨g, 0, none⟩ = some (.int .i64 x.Member) ∧ w.cell? ⟨g, 1, none⟩ = some (.bool x.Won) ∧ w.cell? ⟨g, 2, none⟩ = some (.int .i64 y.Member) ∧ w.cell? ⟨g, 3, none⟩ = some (.bool y.Won) := by
  rcases h.2 with ⟨_, h0⟩ | ⟨g, cap, cur, hv, _, hg, _, _, _, ht⟩
  · cases h0
  · simp only [Value.slice.injEq] at hv
    have key : ∀ t, t < 4 → w.cell? ⟨g, t, none⟩ = ([x, y].flatMap vdL)[t]? := by
      intro t h4
      rw [← ht, List.getElem?_take_of_lt (by simp; omega), heap_cell hg, Array.getElem?_toList]
    exact ⟨g, hv.1, key 0 (by omega), key 1 (by omega), key 2 (by omega), key 3 (by omega)⟩
def aw1 : Arn := ⟨2, [0, 1], false, -1, [], false, -1, false⟩
def aw2 : Arn := ⟨2, [0, 1], false, -1, [1], false, -1, false⟩
def aw3 : Arn := ⟨2, [0, 1], false, -1, [1], true, -1, false⟩
def aw4 : Arn := ⟨2, [], false, -1, [], false, 0, true⟩
theorem aw_1 : step (newA 2).1 ⟨1, 0⟩ = (aw1, [], 0) := rfl
theorem aw_2 : step aw1 ⟨4, 1⟩ = (aw2, [], 0) := by
  have h : step aw1 ⟨4, 1⟩ = ({ aw1 with Holds := sorted [1] }, [], 0) := rfl
  rw [h]
  have : sorted [1] = [1] := by simp [sorted]
  rw [this]
  rfl
theorem aw_3 : step aw2 ⟨6, 0⟩ = (aw3, [], 0) := rfl
theorem aw_4 : step aw3 ⟨3, 1⟩ = (aw4, [⟨1, false⟩, ⟨0, true⟩], 0) := rfl
set_option maxRecDepth 100000 in
set_option maxHeartbeats 8000000 in
theorem awake_ok (w : World) : Calls Try.prog 16 #[] w fun e w' => e = .returned (.bool true) ∧ Ext w w' := by
  have hn := Lib.hid fun w' => New_ok 2 w' (by omega)
  go_enter Try.func16, Try.ntmps16
  go_wp2_with fail
  refine Calls.mono (hn.out _) ?_
  rintro _ W0 ⟨la, lc, rfl, he, oL⟩
  replace he := Lib.hid he
  go_upto_region 2 with fail
  refine gen_at5 (p := fun W => Code.wp _ _ _ _ W) ?_
  intro W hW
  have hat : Hid (ArAt W W0.heap.size (newA 2).1) := Lib.hid ⟨la, lc, none, 0, by rw [hW]; exact heap_new _ _ rfl, by rw [hW]; exact oL.ext (Ext.alloc (Ext.refl _) _), OI.nil _ _⟩
  have hE : Hid (Ext w W) := Lib.hid (he.out.trans (by rw [hW]; (repeat (first | exact Ext.refl _ | assumption | refine Ext.alloc ?_ _ | refine Ext.ext ?_ _ | refine Ext.drew ?_))))
  have hVw : Hid (w.heap.size ≤ W0.heap.size) := Lib.hid he.out.size
  obtain ⟨V, hV0⟩ : ∃ V, W0.heap.size = V := ⟨_, rfl⟩
  rw [hV0] at hat hVw ⊢
  clear hW hV0 oL he
  obtain ⟨la, lc, ha, hc, hV, oL, oH⟩ := hat.out; (have y0 := heap_cell hV 0); (have y1 := heap_cell hV 1); (have y2 := heap_cell hV 2); (have y3 := heap_cell hV 3); (have y4 := heap_cell hV 4); (have y5 := heap_cell hV 5); (have y6 := heap_cell hV 6); (have y7 := heap_cell hV 7); simp only [List.getElem?_toArray, List.getElem?_cons_succ, List.getElem?_cons_zero] at y0 y1 y2 y3 y4 y5 y6 y7; (have yl := (Array.getElem?_eq_some_iff.1 hV).1); (have hs := step_ok (B := W.heap.size) ((newA 2).1) 1 0 la ha lc hc W (by decide) (by decide) oL.rep oH.rep (Nat.le_refl _)); rw [aw_1] at hs; simp only at hs; replace hs := Lib.hid hs; replace hV := Lib.hid hV; clear oL oH; (go_wp2_with fail); (refine Calls.mono hs.out ?_); (rintro _ W2 ⟨la', lc', ha', hc', va, vc, rfl, he, u1, u2, u3⟩); clear y0 y1 y2 y3 y4 y5 y6 y7 yl hs; replace hV := Lib.hid (heap_some_ext hV.out he); (have y0 := heap_cell hV.out 0); (have y1 := heap_cell hV.out 1); (have y2 := heap_cell hV.out 2); (have y3 := heap_cell hV.out 3); (have y4 := heap_cell hV.out 4); (have y5 := heap_cell hV.out 5); (have y6 := heap_cell hV.out 6); (have y7 := heap_cell hV.out 7); (have yf := heap_thaw hV.out); simp only [List.getElem?_toArray, List.getElem?_cons_succ, List.getElem?_cons_zero] at y0 y1 y2 y3 y4 y5 y6 y7; (have yl := (Array.getElem?_eq_some_iff.1 hV.out).1); replace hE := Lib.hid (hE.out.trans he); replace u1 := Lib.hid u1.low; replace u2 := Lib.hid u2.low; replace u3 := Lib.hid u3; clear he hat
  go_upto_region 3 with fail
  obtain ⟨pg, ph⟩ := put8 (v0 := .int .i64 (aw1).Members) (v1 := .slice la' (aw1).Left.length lc') (v2 := .bool (aw1).Open) (v3 := .int .i64 (aw1).Eager) (v4 := .slice ha' (aw1).Holds.length hc') (v5 := .bool (aw1).Swept) (v6 := .int .i64 (aw1).Winner) (v7 := .bool (aw1).Done) hV.out; clear y0 y1 y2 y3 y4 y5 y6 y7 yf yl; (refine gen_at5 (p := fun W => Code.wp _ _ _ _ W) ?_); intro W hW; rw [← hW] at pg ph; clear hW; (have hbV : ∀ b, some V = some b → ∃ cur fr, W2.heap[b]? = some (.cells cur 24 fr) := fun b e => by cases e; exact ⟨_, _, hV.out⟩); replace hE := Lib.hid (Ext.of_grown hE.out pg (fun k hk => by cases hk; exact hVw.out)); (have hv3 := Lib.hid (u3.out.grownA pg hbV)); (have hat : Hid (ArAt W V aw1) := Lib.hid ⟨la', lc', ha', hc', ph, u1.out.grownA pg hbV, u2.out.grownA pg hbV⟩); clear pg ph hbV hV u1 u2 u3
  clear hv3
  obtain ⟨la, lc, ha, hc, hV, oL, oH⟩ := hat.out; (have y0 := heap_cell hV 0); (have y1 := heap_cell hV 1); (have y2 := heap_cell hV 2); (have y3 := heap_cell hV 3); (have y4 := heap_cell hV 4); (have y5 := heap_cell hV 5); (have y6 := heap_cell hV 6); (have y7 := heap_cell hV 7); simp only [List.getElem?_toArray, List.getElem?_cons_succ, List.getElem?_cons_zero] at y0 y1 y2 y3 y4 y5 y6 y7; (have yl := (Array.getElem?_eq_some_iff.1 hV).1); (have hs := step_ok (B := W.heap.size) (aw1) 4 1 la ha lc hc W (by decide) (by decide) oL.rep oH.rep (Nat.le_refl _)); rw [aw_2] at hs; simp only at hs; replace hs := Lib.hid hs; replace hV := Lib.hid hV; clear oL oH; (go_wp2_with fail); (refine Calls.mono hs.out ?_); (rintro _ W2 ⟨la', lc', ha', hc', va, vc, rfl, he, u1, u2, u3⟩); clear y0 y1 y2 y3 y4 y5 y6 y7 yl hs; replace hV := Lib.hid (heap_some_ext hV.out he); (have y0 := heap_cell hV.out 0); (have y1 := heap_cell hV.out 1); (have y2 := heap_cell hV.out 2); (have y3 := heap_cell hV.out 3); (have y4 := heap_cell hV.out 4); (have y5 := heap_cell hV.out 5); (have y6 := heap_cell hV.out 6); (have y7 := heap_cell hV.out 7); (have yf := heap_thaw hV.out); simp only [List.getElem?_toArray, List.getElem?_cons_succ, List.getElem?_cons_zero] at y0 y1 y2 y3 y4 y5 y6 y7; (have yl := (Array.getElem?_eq_some_iff.1 hV.out).1); replace hE := Lib.hid (hE.out.trans he); replace u1 := Lib.hid u1.low; replace u2 := Lib.hid u2.low; replace u3 := Lib.hid u3; clear he hat
  go_upto_region 4 with fail
  obtain ⟨pg, ph⟩ := put8 (v0 := .int .i64 (aw2).Members) (v1 := .slice la' (aw2).Left.length lc') (v2 := .bool (aw2).Open) (v3 := .int .i64 (aw2).Eager) (v4 := .slice ha' (aw2).Holds.length hc') (v5 := .bool (aw2).Swept) (v6 := .int .i64 (aw2).Winner) (v7 := .bool (aw2).Done) hV.out; clear y0 y1 y2 y3 y4 y5 y6 y7 yf yl; (refine gen_at5 (p := fun W => Code.wp _ _ _ _ W) ?_); intro W hW; rw [← hW] at pg ph; clear hW; (have hbV : ∀ b, some V = some b → ∃ cur fr, W2.heap[b]? = some (.cells cur 24 fr) := fun b e => by cases e; exact ⟨_, _, hV.out⟩); replace hE := Lib.hid (Ext.of_grown hE.out pg (fun k hk => by cases hk; exact hVw.out)); (have hv3 := Lib.hid (u3.out.grownA pg hbV)); (have hat : Hid (ArAt W V aw2) := Lib.hid ⟨la', lc', ha', hc', ph, u1.out.grownA pg hbV, u2.out.grownA pg hbV⟩); clear pg ph hbV hV u1 u2 u3
  clear hv3
  obtain ⟨la, lc, ha, hc, hV, oL, oH⟩ := hat.out; (have y0 := heap_cell hV 0); (have y1 := heap_cell hV 1); (have y2 := heap_cell hV 2); (have y3 := heap_cell hV 3); (have y4 := heap_cell hV 4); (have y5 := heap_cell hV 5); (have y6 := heap_cell hV 6); (have y7 := heap_cell hV 7); simp only [List.getElem?_toArray, List.getElem?_cons_succ, List.getElem?_cons_zero] at y0 y1 y2 y3 y4 y5 y6 y7; (have yl := (Array.getElem?_eq_some_iff.1 hV).1); (have hs := step_ok (B := W.heap.size) (aw2) 6 0 la ha lc hc W (by decide) (by decide) oL.rep oH.rep (Nat.le_refl _)); rw [aw_3] at hs; simp only at hs; replace hs := Lib.hid hs; replace hV := Lib.hid hV; clear oL oH; (go_wp2_with fail); (refine Calls.mono hs.out ?_); (rintro _ W2 ⟨la', lc', ha', hc', va, vc, rfl, he, u1, u2, u3⟩); clear y0 y1 y2 y3 y4 y5 y6 y7 yl hs; replace hV := Lib.hid (heap_some_ext hV.out he); (have y0 := heap_cell hV.out 0); (have y1 := heap_cell hV.out 1); (have y2 := heap_cell hV.out 2); (have y3 := heap_cell hV.out 3); (have y4 := heap_cell hV.out 4); (have y5 := heap_cell hV.out 5); (have y6 := heap_cell hV.out 6); (have y7 := heap_cell hV.out 7); (have yf := heap_thaw hV.out); simp only [List.getElem?_toArray, List.getElem?_cons_succ, List.getElem?_cons_zero] at y0 y1 y2 y3 y4 y5 y6 y7; (have yl := (Array.getElem?_eq_some_iff.1 hV.out).1); replace hE := Lib.hid (hE.out.trans he); replace u1 := Lib.hid u1.low; replace u2 := Lib.hid u2.low; replace u3 := Lib.hid u3; clear he hat
  go_upto_region 5 with fail
  obtain ⟨pg, ph⟩ := put8 (v0 := .int .i64 (aw3).Members) (v1 := .slice la' (aw3).Left.length lc') (v2 := .bool (aw3).Open) (v3 := .int .i64 (aw3).Eager) (v4 := .slice ha' (aw3).Holds.length hc') (v5 := .bool (aw3).Swept) (v6 := .int .i64 (aw3).Winner) (v7 := .bool (aw3).Done) hV.out; clear y0 y1 y2 y3 y4 y5 y6 y7 yf yl; (refine gen_at5 (p := fun W => Code.wp _ _ _ _ W) ?_); intro W hW; rw [← hW] at pg ph; clear hW; (have hbV : ∀ b, some V = some b → ∃ cur fr, W2.heap[b]? = some (.cells cur 24 fr) := fun b e => by cases e; exact ⟨_, _, hV.out⟩); replace hE := Lib.hid (Ext.of_grown hE.out pg (fun k hk => by cases hk; exact hVw.out)); (have hv3 := Lib.hid (u3.out.grownA pg hbV)); (have hat : Hid (ArAt W V aw3) := Lib.hid ⟨la', lc', ha', hc', ph, u1.out.grownA pg hbV, u2.out.grownA pg hbV⟩); clear pg ph hbV hV u1 u2 u3
  clear hv3
  obtain ⟨la, lc, ha, hc, hV, oL, oH⟩ := hat.out; (have y0 := heap_cell hV 0); (have y1 := heap_cell hV 1); (have y2 := heap_cell hV 2); (have y3 := heap_cell hV 3); (have y4 := heap_cell hV 4); (have y5 := heap_cell hV 5); (have y6 := heap_cell hV 6); (have y7 := heap_cell hV 7); simp only [List.getElem?_toArray, List.getElem?_cons_succ, List.getElem?_cons_zero] at y0 y1 y2 y3 y4 y5 y6 y7; (have yl := (Array.getElem?_eq_some_iff.1 hV).1); (have hs := step_ok (B := W.heap.size) (aw3) 3 1 la ha lc hc W (by decide) (by decide) oL.rep oH.rep (Nat.le_refl _)); rw [aw_4] at hs; simp only at hs; replace hs := Lib.hid hs; replace hV := Lib.hid hV; clear oL oH; (go_wp2_with fail); (refine Calls.mono hs.out ?_); (rintro _ W2 ⟨la', lc', ha', hc', va, vc, rfl, he, u1, u2, u3⟩); clear y0 y1 y2 y3 y4 y5 y6 y7 yl hs; replace hV := Lib.hid (heap_some_ext hV.out he); (have y0 := heap_cell hV.out 0); (have y1 := heap_cell hV.out 1); (have y2 := heap_cell hV.out 2); (have y3 := heap_cell hV.out 3); (have y4 := heap_cell hV.out 4); (have y5 := heap_cell hV.out 5); (have y6 := heap_cell hV.out 6); (have y7 := heap_cell hV.out 7); (have yf := heap_thaw hV.out); simp only [List.getElem?_toArray, List.getElem?_cons_succ, List.getElem?_cons_zero] at y0 y1 y2 y3 y4 y5 y6 y7; (have yl := (Array.getElem?_eq_some_iff.1 hV.out).1); replace hE := Lib.hid (hE.out.trans he); replace u1 := Lib.hid u1.low; replace u2 := Lib.hid u2.low; replace u3 := Lib.hid u3; clear he hat
  go_upto_region 6 with fail
  obtain ⟨pg, ph⟩ := put8 (v0 := .int .i64 (aw4).Members) (v1 := .slice la' (aw4).Left.length lc') (v2 := .bool (aw4).Open) (v3 := .int .i64 (aw4).Eager) (v4 := .slice ha' (aw4).Holds.length hc') (v5 := .bool (aw4).Swept) (v6 := .int .i64 (aw4).Winner) (v7 := .bool (aw4).Done) hV.out; clear y0 y1 y2 y3 y4 y5 y6 y7 yf yl; (refine gen_at5 (p := fun W => Code.wp _ _ _ _ W) ?_); intro W hW; rw [← hW] at pg ph; clear hW; (have hbV : ∀ b, some V = some b → ∃ cur fr, W2.heap[b]? = some (.cells cur 24 fr) := fun b e => by cases e; exact ⟨_, _, hV.out⟩); replace hE := Lib.hid (Ext.of_grown hE.out pg (fun k hk => by cases hk; exact hVw.out)); (have hv3 := Lib.hid (u3.out.grownA pg hbV)); (have hat : Hid (ArAt W V aw4) := Lib.hid ⟨la', lc', ha', hc', ph, u1.out.grownA pg hbV, u2.out.grownA pg hbV⟩); clear pg ph hbV hV u1 u2 u3
  obtain ⟨g, hg, k0, k1, k2, k3⟩ := vd_cells hv3.out
  subst hg
  obtain ⟨la, lc, ha, hc, hV, oL, oH⟩ := hat.out
  have y7 : W.cell? ⟨V, 7, none⟩ = some (.bool true) := heap_cell hV 7
  have yl := (Array.getElem?_eq_some_iff.1 hV).1
  have gl := World.block_lt_of_cell? W ⟨g, 0, none⟩ k0
  simp only at gl
  clear hV oL oH hat hv3
  go_wp2
  go_ret
  exact ⟨rfl, hE.out⟩
end Go.Proofs.Ytcnmljpabmgieaa.R
