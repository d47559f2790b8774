/- ArenaLimits: the walk. -/
import Derived.Test.YtcnmljpabmgieaaAr13
import Derived.Test.YtcnmljpabmgieaaAr14
import Derived.WalkKit
import Derived.WalkSpells
import Derived.WalkLawsBesides
import Derived.Deep.QuietTactic
import Derived.BigQuiet
import Derived.BigRegion
import Derived.Lib.Hide
import Derived.Deep.RegionWith
set_option linter.unusedSimpArgs false
set_option linter.unusedVariables false
namespace Go.Proofs.Ytcnmljpabmgieaa.R
open Go.RowKit
set_option maxRecDepth 100000 in
set_option maxHeartbeats 8000000 in
theorem limits_law (n : Int) (hn : 0 ≤ n ∧ n ≤ 255) (w : World) : Calls Try.prog 9 #[.int .u8 n] w fun e w' => e = .returned (.bool true) ∧ Ext w w' := by
  obtain ⟨hn1, hn2⟩ := hn
  have hb := Lib.hid fun w' => new_bad (-1 - n) w' (.inl (by omega))
  rcases (show n % 3 = 2 ∨ n % 3 = 0 ∨ n % 3 = 1 by omega) with hr | hr | hr
  focus
    have hc := Lib.hid fun w' => new_bad 25 w' (.inr (by omega))
    go_enter Try.func9, Try.ntmps9
    go_wp2_with fail
    refine Calls.mono (hb.out _) ?_
    rintro _ _ ⟨rfl, d, rfl⟩
    go_wp2_with fail
    refine Calls.mono (hc.out _) ?_
    rintro _ _ ⟨rfl, d', rfl⟩
    go_wp2_with fail
    refine Calls.mono (awake_ok _) ?_
    rintro _ _ ⟨rfl, d2, rfl⟩
    go_wp2
    go_ret
    refine ⟨rfl, ?_⟩
    (repeat (first | exact Ext.refl _ | assumption | refine Ext.alloc ?_ _ | refine Ext.ext ?_ _ | refine Ext.drew ?_))
  focus
    have hc := fun w' => New_ok 23 w' (by omega)
    obtain ⟨vs, hq1⟩ := qf_start23
    obtain ⟨A, hA⟩ : ∃ A, A = (newA ((23 : Nat) : Int)).1 := ⟨_, rfl⟩
    have hAl : A.Left.length ≤ 1000 := by rw [hA]; decide
    have hAh : A.Holds.length ≤ 1000 := by rw [hA]; decide
    have hAe : Hid (A.Holds = []) := Lib.hid (by rw [hA]; rfl)
    have hq1' : step A ⟨1, 0⟩ = (qf 23 0, vs, 0) := by rw [hA]; exact hq1
    simp only [← hA] at hc
    replace hc := Lib.hid hc
    clear hA hq1
    go_enter Try.func9, Try.ntmps9
    go_wp2_with fail
    refine Calls.mono (hb.out _) ?_
    rintro _ _ ⟨rfl, d, rfl⟩
    go_wp2_with fail
    refine Calls.mono (hc.out _) ?_
    rintro _ W0 ⟨la, lc, rfl, he, oL⟩
    replace he := Lib.hid (Ext.trans (a := w) (by (repeat (first | exact Ext.refl _ | assumption | refine Ext.alloc ?_ _ | refine Ext.ext ?_ _ | refine Ext.drew ?_))) he)
    clear hb hc hr
    go_upto_region 8 with fail
    refine gen_at5 (p := fun W => Code.wp _ _ _ _ W) ?_
    intro W hW
    have hat : Hid (ArAt W W0.heap.size A) := Lib.hid ⟨la, lc, none, 0, by rw [hW]; exact heap_new _ _ rfl, by rw [hW]; exact oL.ext (Ext.alloc (Ext.refl _) _), by rw [hAe.out]; exact OI.nil _⟩
    have hE : Hid (Ext w W) := Lib.hid (he.out.trans (by rw [hW]; (repeat (first | exact Ext.refl _ | assumption | refine Ext.alloc ?_ _ | refine Ext.ext ?_ _ | refine Ext.drew ?_))))
    have hVw : Hid (w.heap.size ≤ W0.heap.size) := Lib.hid he.out.size
    obtain ⟨V, hV0⟩ : ∃ V, W0.heap.size = V := ⟨_, rfl⟩
    rw [hV0] at hat hVw ⊢
    clear hW hV0 oL he
    obtain ⟨B, hB⟩ : ∃ B, B = qf 23 0 := ⟨_, rfl⟩
    rw [← hB] at hq1'
    replace hB := Lib.hid hB
    obtain ⟨la, lc, ha, hc, hV, oL, oH⟩ := hat.out; (have y0 := heap_cell hV 0); (have y1 := heap_cell hV 1); (have y2 := heap_cell hV 2); (have y3 := heap_cell hV 3); (have y4 := heap_cell hV 4); (have y5 := heap_cell hV 5); (have y6 := heap_cell hV 6); (have y7 := heap_cell hV 7); simp only [List.getElem?_toArray, List.getElem?_cons_succ, List.getElem?_cons_zero] at y0 y1 y2 y3 y4 y5 y6 y7; (have yl := (Array.getElem?_eq_some_iff.1 hV).1); (have hs := step_ok (A) 1 0 la ha lc hc W hAl hAh oL.rep oH.rep); rw [hq1'] at hs; simp only at hs; replace hs := Lib.hid hs; replace hV := Lib.hid hV; clear oL oH; (go_wp2_with fail); (refine Calls.mono hs.out ?_); (rintro _ W2 ⟨la', lc', ha', hc', va, vc, rfl, he, u1, u2, u3⟩); clear y0 y1 y2 y3 y4 y5 y6 y7 yl hs; replace hV := Lib.hid (heap_some_ext hV.out he); (have y0 := heap_cell hV.out 0); (have y1 := heap_cell hV.out 1); (have y2 := heap_cell hV.out 2); (have y3 := heap_cell hV.out 3); (have y4 := heap_cell hV.out 4); (have y5 := heap_cell hV.out 5); (have y6 := heap_cell hV.out 6); (have y7 := heap_cell hV.out 7); (have yf := heap_thaw hV.out); simp only [List.getElem?_toArray, List.getElem?_cons_succ, List.getElem?_cons_zero] at y0 y1 y2 y3 y4 y5 y6 y7; (have yl := (Array.getElem?_eq_some_iff.1 hV.out).1); replace hE := Lib.hid (hE.out.trans he); replace u1 := Lib.hid u1; replace u2 := Lib.hid u2; replace u3 := Lib.hid u3; clear he hat
    clear hAl hAh
    go_upto_region 9 with fail
    obtain ⟨pg, ph⟩ := put8 (v0 := .int .i64 (B).Members) (v1 := .slice la' (B).Left.length lc') (v2 := .bool (B).Open) (v3 := .int .i64 (B).Eager) (v4 := .slice ha' (B).Holds.length hc') (v5 := .bool (B).Swept) (v6 := .int .i64 (B).Winner) (v7 := .bool (B).Done) hV.out; clear y0 y1 y2 y3 y4 y5 y6 y7 yf yl; (refine gen_at5 (p := fun W => Code.wp _ _ _ _ W) ?_); intro W hW; rw [← hW] at pg ph; clear hW; (have hbV : ∀ b, some V = some b → ∃ cur fr, W2.heap[b]? = some (.cells cur 24 fr) := fun b e => by cases e; exact ⟨_, _, hV.out⟩); replace hE := Lib.hid (Ext.of_grown hE.out pg (fun k hk => by cases hk; exact hVw.out)); (have hv3 := Lib.hid (u3.out.grownA pg hbV)); (have hat : Hid (ArAt W V B) := Lib.hid ⟨la', lc', ha', hc', ph, u1.out.grownA pg hbV, u2.out.grownA pg hbV⟩); clear pg ph hbV hV u1 u2 u3
    clear hv3 hq1'
    rw [hB.out] at hat
    go_wp2
    go_loopg [9, 10] 23 (fun g v9 v10 wr => ∃ i : Nat, v9 = .int .i64 0 ∧ v10 = .int .i64 i ∧ i + 1 ≤ 23 ∧ g = 23 - i ∧ Hid (ArAt wr V (qf 23 i)) ∧ Hid (Ext w wr))
    case atStart => exact ⟨0, rfl, rfl, by omega, rfl, hat, hE⟩
    case round =>
      clear hat hE
      obtain ⟨i, rfl, rfl, hi, hg, hat, hE⟩ := hrel
      obtain ⟨W, rfl⟩ : ∃ W, W = wr := ⟨_, rfl⟩
      replace hg := Lib.hid hg
      by_cases hlt : i + 1 < 23
      · obtain ⟨vs2, hq2⟩ := qf_step23 i hlt
        have hql := qf_len 23 i
        have d1 : decide ((i : Int) < 22) = true := decide_eq_true (by omega)
        obtain ⟨A, hA⟩ : ∃ A, A = qf 23 i := ⟨_, rfl⟩
        obtain ⟨B, hB⟩ : ∃ B, B = qf 23 (i + 1) := ⟨_, rfl⟩
        rw [← hA] at hat hq2 hql
        have hl1 : A.Left.length ≤ 1000 := by omega
        have hl2 : A.Holds.length ≤ 1000 := by omega
        clear hql
        rw [← hB] at hq2
        replace hB := Lib.hid hB
        clear hA
        obtain ⟨la, lc, ha, hc, hV, oL, oH⟩ := hat.out; (have y0 := heap_cell hV 0); (have y1 := heap_cell hV 1); (have y2 := heap_cell hV 2); (have y3 := heap_cell hV 3); (have y4 := heap_cell hV 4); (have y5 := heap_cell hV 5); (have y6 := heap_cell hV 6); (have y7 := heap_cell hV 7); simp only [List.getElem?_toArray, List.getElem?_cons_succ, List.getElem?_cons_zero] at y0 y1 y2 y3 y4 y5 y6 y7; (have yl := (Array.getElem?_eq_some_iff.1 hV).1); (have hs := step_ok (A) 3 i la ha lc hc W hl1 hl2 oL.rep oH.rep); rw [hq2] at hs; simp only at hs; replace hs := Lib.hid hs; replace hV := Lib.hid hV; clear oL oH; (go_wp2_with fail); (refine Calls.mono hs.out ?_); (rintro _ W2 ⟨la', lc', ha', hc', va, vc, rfl, he, u1, u2, u3⟩); clear y0 y1 y2 y3 y4 y5 y6 y7 yl hs; replace hV := Lib.hid (heap_some_ext hV.out he); (have y0 := heap_cell hV.out 0); (have y1 := heap_cell hV.out 1); (have y2 := heap_cell hV.out 2); (have y3 := heap_cell hV.out 3); (have y4 := heap_cell hV.out 4); (have y5 := heap_cell hV.out 5); (have y6 := heap_cell hV.out 6); (have y7 := heap_cell hV.out 7); (have yf := heap_thaw hV.out); simp only [List.getElem?_toArray, List.getElem?_cons_succ, List.getElem?_cons_zero] at y0 y1 y2 y3 y4 y5 y6 y7; (have yl := (Array.getElem?_eq_some_iff.1 hV.out).1); replace hE := Lib.hid (hE.out.trans he); replace u1 := Lib.hid u1; replace u2 := Lib.hid u2; replace u3 := Lib.hid u3; clear he hat
        clear hl1 hl2 hq2
        go_upto_region 11 with fail
        obtain ⟨pg, ph⟩ := put8 (v0 := .int .i64 (B).Members) (v1 := .slice la' (B).Left.length lc') (v2 := .bool (B).Open) (v3 := .int .i64 (B).Eager) (v4 := .slice ha' (B).Holds.length hc') (v5 := .bool (B).Swept) (v6 := .int .i64 (B).Winner) (v7 := .bool (B).Done) hV.out; clear y0 y1 y2 y3 y4 y5 y6 y7 yf yl; (refine gen_at5 (p := fun W => Code.wp _ _ _ _ W) ?_); intro W hW; rw [← hW] at pg ph; clear hW; (have hbV : ∀ b, some V = some b → ∃ cur fr, W2.heap[b]? = some (.cells cur 24 fr) := fun b e => by cases e; exact ⟨_, _, hV.out⟩); replace hE := Lib.hid (Ext.of_grown hE.out pg (fun k hk => by cases hk; exact hVw.out)); (have hv3 := Lib.hid (u3.out.grownA pg hbV)); (have hat : Hid (ArAt W V B) := Lib.hid ⟨la', lc', ha', hc', ph, u1.out.grownA pg hbV, u2.out.grownA pg hbV⟩); clear pg ph hbV hV u1 u2 u3
        clear hv3
        rw [hB.out] at hat
        go_wp2
        go_roundg (23 - (i + 1))
        case measure => have := hg.out; omega
        case rel => exact ⟨i + 1, rfl, by go_num, by omega, rfl, hat, hE⟩
      · obtain rfl : i = 22 := by omega
        obtain ⟨la, lc, ha, hc, hV, oL, oH⟩ := hat.out
        have y6 : W.cell? ⟨V, 6, none⟩ = some (.int .i64 22) := heap_cell hV 6
        have y7 : W.cell? ⟨V, 7, none⟩ = some (.bool true) := heap_cell hV 7
        have yl := (Array.getElem?_eq_some_iff.1 hV).1
        clear hV oL oH hat hlt hg
        go_wp2_with fail
        refine Calls.mono (awake_ok _) ?_
        rintro _ _ ⟨rfl, d2, rfl⟩
        go_wp2
        go_ret
        exact ⟨rfl, hE.out.ext d2⟩
  focus
    have hc := fun w' => New_ok 24 w' (by omega)
    obtain ⟨vs, hq1⟩ := qf_start24
    obtain ⟨A, hA⟩ : ∃ A, A = (newA ((24 : Nat) : Int)).1 := ⟨_, rfl⟩
    have hAl : A.Left.length ≤ 1000 := by rw [hA]; decide
    have hAh : A.Holds.length ≤ 1000 := by rw [hA]; decide
    have hAe : Hid (A.Holds = []) := Lib.hid (by rw [hA]; rfl)
    have hq1' : step A ⟨1, 0⟩ = (qf 24 0, vs, 0) := by rw [hA]; exact hq1
    simp only [← hA] at hc
    replace hc := Lib.hid hc
    clear hA hq1
    go_enter Try.func9, Try.ntmps9
    go_wp2_with fail
    refine Calls.mono (hb.out _) ?_
    rintro _ _ ⟨rfl, d, rfl⟩
    go_wp2_with fail
    refine Calls.mono (hc.out _) ?_
    rintro _ W0 ⟨la, lc, rfl, he, oL⟩
    replace he := Lib.hid (Ext.trans (a := w) (by (repeat (first | exact Ext.refl _ | assumption | refine Ext.alloc ?_ _ | refine Ext.ext ?_ _ | refine Ext.drew ?_))) he)
    clear hb hc hr
    go_upto_region 8 with fail
    refine gen_at5 (p := fun W => Code.wp _ _ _ _ W) ?_
    intro W hW
    have hat : Hid (ArAt W W0.heap.size A) := Lib.hid ⟨la, lc, none, 0, by rw [hW]; exact heap_new _ _ rfl, by rw [hW]; exact oL.ext (Ext.alloc (Ext.refl _) _), by rw [hAe.out]; exact OI.nil _⟩
    have hE : Hid (Ext w W) := Lib.hid (he.out.trans (by rw [hW]; (repeat (first | exact Ext.refl _ | assumption | refine Ext.alloc ?_ _ | refine Ext.ext ?_ _ | refine Ext.drew ?_))))
    have hVw : Hid (w.heap.size ≤ W0.heap.size) := Lib.hid he.out.size
    obtain ⟨V, hV0⟩ : ∃ V, W0.heap.size = V := ⟨_, rfl⟩
    rw [hV0] at hat hVw ⊢
    clear hW hV0 oL he
    obtain ⟨B, hB⟩ : ∃ B, B = qf 24 0 := ⟨_, rfl⟩
    rw [← hB] at hq1'
    replace hB := Lib.hid hB
    obtain ⟨la, lc, ha, hc, hV, oL, oH⟩ := hat.out; (have y0 := heap_cell hV 0); (have y1 := heap_cell hV 1); (have y2 := heap_cell hV 2); (have y3 := heap_cell hV 3); (have y4 := heap_cell hV 4); (have y5 := heap_cell hV 5); (have y6 := heap_cell hV 6); (have y7 := heap_cell hV 7); simp only [List.getElem?_toArray, List.getElem?_cons_succ, List.getElem?_cons_zero] at y0 y1 y2 y3 y4 y5 y6 y7; (have yl := (Array.getElem?_eq_some_iff.1 hV).1); (have hs := step_ok (A) 1 0 la ha lc hc W hAl hAh oL.rep oH.rep); rw [hq1'] at hs; simp only at hs; replace hs := Lib.hid hs; replace hV := Lib.hid hV; clear oL oH; (go_wp2_with fail); (refine Calls.mono hs.out ?_); (rintro _ W2 ⟨la', lc', ha', hc', va, vc, rfl, he, u1, u2, u3⟩); clear y0 y1 y2 y3 y4 y5 y6 y7 yl hs; replace hV := Lib.hid (heap_some_ext hV.out he); (have y0 := heap_cell hV.out 0); (have y1 := heap_cell hV.out 1); (have y2 := heap_cell hV.out 2); (have y3 := heap_cell hV.out 3); (have y4 := heap_cell hV.out 4); (have y5 := heap_cell hV.out 5); (have y6 := heap_cell hV.out 6); (have y7 := heap_cell hV.out 7); (have yf := heap_thaw hV.out); simp only [List.getElem?_toArray, List.getElem?_cons_succ, List.getElem?_cons_zero] at y0 y1 y2 y3 y4 y5 y6 y7; (have yl := (Array.getElem?_eq_some_iff.1 hV.out).1); replace hE := Lib.hid (hE.out.trans he); replace u1 := Lib.hid u1; replace u2 := Lib.hid u2; replace u3 := Lib.hid u3; clear he hat
    clear hAl hAh
    go_upto_region 9 with fail
    obtain ⟨pg, ph⟩ := put8 (v0 := .int .i64 (B).Members) (v1 := .slice la' (B).Left.length lc') (v2 := .bool (B).Open) (v3 := .int .i64 (B).Eager) (v4 := .slice ha' (B).Holds.length hc') (v5 := .bool (B).Swept) (v6 := .int .i64 (B).Winner) (v7 := .bool (B).Done) hV.out; clear y0 y1 y2 y3 y4 y5 y6 y7 yf yl; (refine gen_at5 (p := fun W => Code.wp _ _ _ _ W) ?_); intro W hW; rw [← hW] at pg ph; clear hW; (have hbV : ∀ b, some V = some b → ∃ cur fr, W2.heap[b]? = some (.cells cur 24 fr) := fun b e => by cases e; exact ⟨_, _, hV.out⟩); replace hE := Lib.hid (Ext.of_grown hE.out pg (fun k hk => by cases hk; exact hVw.out)); (have hv3 := Lib.hid (u3.out.grownA pg hbV)); (have hat : Hid (ArAt W V B) := Lib.hid ⟨la', lc', ha', hc', ph, u1.out.grownA pg hbV, u2.out.grownA pg hbV⟩); clear pg ph hbV hV u1 u2 u3
    clear hv3 hq1'
    rw [hB.out] at hat
    go_wp2
    go_loopg [9, 10] 24 (fun g v9 v10 wr => ∃ i : Nat, v9 = .int .i64 0 ∧ v10 = .int .i64 i ∧ i + 1 ≤ 24 ∧ g = 24 - i ∧ Hid (ArAt wr V (qf 24 i)) ∧ Hid (Ext w wr))
    case atStart => exact ⟨0, rfl, rfl, by omega, rfl, hat, hE⟩
    case round =>
      clear hat hE
      obtain ⟨i, rfl, rfl, hi, hg, hat, hE⟩ := hrel
      obtain ⟨W, rfl⟩ : ∃ W, W = wr := ⟨_, rfl⟩
      replace hg := Lib.hid hg
      by_cases hlt : i + 1 < 24
      · obtain ⟨vs2, hq2⟩ := qf_step24 i hlt
        have hql := qf_len 24 i
        have d1 : decide ((i : Int) < 23) = true := decide_eq_true (by omega)
        obtain ⟨A, hA⟩ : ∃ A, A = qf 24 i := ⟨_, rfl⟩
        obtain ⟨B, hB⟩ : ∃ B, B = qf 24 (i + 1) := ⟨_, rfl⟩
        rw [← hA] at hat hq2 hql
        have hl1 : A.Left.length ≤ 1000 := by omega
        have hl2 : A.Holds.length ≤ 1000 := by omega
        clear hql
        rw [← hB] at hq2
        replace hB := Lib.hid hB
        clear hA
        obtain ⟨la, lc, ha, hc, hV, oL, oH⟩ := hat.out; (have y0 := heap_cell hV 0); (have y1 := heap_cell hV 1); (have y2 := heap_cell hV 2); (have y3 := heap_cell hV 3); (have y4 := heap_cell hV 4); (have y5 := heap_cell hV 5); (have y6 := heap_cell hV 6); (have y7 := heap_cell hV 7); simp only [List.getElem?_toArray, List.getElem?_cons_succ, List.getElem?_cons_zero] at y0 y1 y2 y3 y4 y5 y6 y7; (have yl := (Array.getElem?_eq_some_iff.1 hV).1); (have hs := step_ok (A) 3 i la ha lc hc W hl1 hl2 oL.rep oH.rep); rw [hq2] at hs; simp only at hs; replace hs := Lib.hid hs; replace hV := Lib.hid hV; clear oL oH; (go_wp2_with fail); (refine Calls.mono hs.out ?_); (rintro _ W2 ⟨la', lc', ha', hc', va, vc, rfl, he, u1, u2, u3⟩); clear y0 y1 y2 y3 y4 y5 y6 y7 yl hs; replace hV := Lib.hid (heap_some_ext hV.out he); (have y0 := heap_cell hV.out 0); (have y1 := heap_cell hV.out 1); (have y2 := heap_cell hV.out 2); (have y3 := heap_cell hV.out 3); (have y4 := heap_cell hV.out 4); (have y5 := heap_cell hV.out 5); (have y6 := heap_cell hV.out 6); (have y7 := heap_cell hV.out 7); (have yf := heap_thaw hV.out); simp only [List.getElem?_toArray, List.getElem?_cons_succ, List.getElem?_cons_zero] at y0 y1 y2 y3 y4 y5 y6 y7; (have yl := (Array.getElem?_eq_some_iff.1 hV.out).1); replace hE := Lib.hid (hE.out.trans he); replace u1 := Lib.hid u1; replace u2 := Lib.hid u2; replace u3 := Lib.hid u3; clear he hat
        clear hl1 hl2 hq2
        go_upto_region 11 with fail
        obtain ⟨pg, ph⟩ := put8 (v0 := .int .i64 (B).Members) (v1 := .slice la' (B).Left.length lc') (v2 := .bool (B).Open) (v3 := .int .i64 (B).Eager) (v4 := .slice ha' (B).Holds.length hc') (v5 := .bool (B).Swept) (v6 := .int .i64 (B).Winner) (v7 := .bool (B).Done) hV.out; clear y0 y1 y2 y3 y4 y5 y6 y7 yf yl; (refine gen_at5 (p := fun W => Code.wp _ _ _ _ W) ?_); intro W hW; rw [← hW] at pg ph; clear hW; (have hbV : ∀ b, some V = some b → ∃ cur fr, W2.heap[b]? = some (.cells cur 24 fr) := fun b e => by cases e; exact ⟨_, _, hV.out⟩); replace hE := Lib.hid (Ext.of_grown hE.out pg (fun k hk => by cases hk; exact hVw.out)); (have hv3 := Lib.hid (u3.out.grownA pg hbV)); (have hat : Hid (ArAt W V B) := Lib.hid ⟨la', lc', ha', hc', ph, u1.out.grownA pg hbV, u2.out.grownA pg hbV⟩); clear pg ph hbV hV u1 u2 u3
        clear hv3
        rw [hB.out] at hat
        go_wp2
        go_roundg (24 - (i + 1))
        case measure => have := hg.out; omega
        case rel => exact ⟨i + 1, rfl, by go_num, by omega, rfl, hat, hE⟩
      · obtain rfl : i = 23 := by omega
        obtain ⟨la, lc, ha, hc, hV, oL, oH⟩ := hat.out
        have y6 : W.cell? ⟨V, 6, none⟩ = some (.int .i64 23) := heap_cell hV 6
        have y7 : W.cell? ⟨V, 7, none⟩ = some (.bool true) := heap_cell hV 7
        have yl := (Array.getElem?_eq_some_iff.1 hV).1
        clear hV oL oH hat hlt hg
        go_wp2_with fail
        refine Calls.mono (awake_ok _) ?_
        rintro _ _ ⟨rfl, d2, rfl⟩
        go_wp2
        go_ret
        exact ⟨rfl, hE.out.ext d2⟩
end Go.Proofs.Ytcnmljpabmgieaa.R
