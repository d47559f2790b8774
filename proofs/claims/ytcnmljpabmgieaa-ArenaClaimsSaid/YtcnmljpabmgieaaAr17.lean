/- ArenaClaims: the walk. -/
import Derived.Test.YtcnmljpabmgieaaAr13
import Derived.Test.YtcnmljpabmgieaaAr16
import Derived.WalkKit
import Derived.WalkSpells
import Derived.WalkLawsBesides
import Derived.Deep.QuietTactic
import Derived.BigQuiet
import Derived.BigRegion
import Derived.Lib.Hide
import Derived.Deep.RegionWith
set_option linter.unusedSimpArgs false
set_option linter.unusedVariables false
namespace Go.Proofs.Ytcnmljpabmgieaa.R
open Go.RowKit
theorem tmod_nat (f r : Int) (hf : 0 ≤ f) (hr : 0 < r) : ∃ p : Nat, f.tmod r = p ∧ (p : Int) < r := by
  have h1 := Int.tmod_nonneg r hf
  have h2 := Int.tmod_lt_of_pos f hr
  exact ⟨(f.tmod r).toNat, by omega, by omega⟩
set_option maxRecDepth 100000 in
set_option maxHeartbeats 4000000 in
theorem claims_law (n f s : Int) (op qu : Bool) (hn : 0 ≤ n ∧ n ≤ 255) (hf : 0 ≤ f ∧ f ≤ 255) (hs : 0 ≤ s ∧ s ≤ 255) (w : World) : Calls Try.prog 7 #[.int .u8 n, .int .u8 f, .int .u8 s, .bool op, .bool qu] w fun e w' => e = .returned (.bool true) ∧ Ext w w' := by
  obtain ⟨hn1, hn2⟩ := hn
  obtain ⟨hf1, hf2⟩ := hf
  obtain ⟨hs1, hs2⟩ := hs
  obtain ⟨r, hr⟩ : ∃ r : Nat, n % 8 = r := ⟨(n % 8).toNat, by omega⟩
  have hr8 : r < 8 := by omega
  obtain ⟨p, hp, hp2⟩ := tmod_nat f (2 + r) hf1 (by omega)
  obtain ⟨q, hq, hq2⟩ := tmod_nat s (2 + r) hs1 (by omega)
  have hm0 : ((2 + (r : Int)) == 0) = false := by simp; omega
  have F := claims_at r p q hr8 (by omega) (by omega)
  simp only [claimsB, small, Bool.and_eq_true, beq_iff_eq, decide_eq_true_eq, and_assoc] at F
  obtain ⟨l0, h0, l1, h1, l2, h2, l3, h3, l4, h4, l5, h5, e1, e2, e3, e4, e5, e6, e7, e8, e9, e10, e11, e12, e13, e14⟩ := F
  have hc := fun w' => New_ok (r + 2) w' (by omega)
  obtain ⟨A, hA⟩ : ∃ A, A = c0 (r + 2) := ⟨_, rfl⟩
  have hAe : Hid (A.Holds = []) := Lib.hid (by rw [hA]; exact c0_holds _)
  have hA' : (newA ((r + 2 : Nat) : Int)).1 = A := hA.symm
  simp only [hA'] at hc
  simp only [show (((r + 2 : Nat)) : Int) = 2 + (r : Int) by omega] at hc
  replace hc := Lib.hid hc
  rw [← hA] at l0 h0
  clear hA'
  cases op
  focus
    unfold c3 at e4
    unfold c2 at e1 e2 e3 e4 l2 h2
    unfold c1 at e1 e2 e3 e4 l1 h1 l2 h2
    rw [← hA] at e1 e2 e3 e4 l1 h1 l2 h2
    rcases s1 : step A ⟨1, 0⟩ with ⟨A1, v1, x1⟩
    rw [s1] at e1 e2 e3 e4 l1 h1 l2 h2
    simp only at e1 e2 e3 e4 l1 h1 l2 h2
    rcases s2 : step A1 ⟨2, p⟩ with ⟨A2, v2, x2⟩
    rw [s2] at e1 e2 e3 e4 l2 h2
    simp only at e1 e2 e3 e4 l2 h2
    rcases s3 : step A2 ⟨2, q⟩ with ⟨A3, v3, x3⟩
    rw [s3] at e4
    simp only at e4
    subst e1 e4
    replace e2 := Lib.hid e2
    replace e3 := Lib.hid e3
    clear l3 h3 l4 h4 l5 h5 e5 e6 e7 e8 e9 e10 e11 e12 e13 e14 hA
    replace s1 := Lib.hid s1
    replace s2 := Lib.hid s2
    replace s3 := Lib.hid s3
    go_enter Try.func7, Try.ntmps7
    go_wp2
    (refine wp_region_ext (by kernel_rfl) (by kernel_rfl) ?_; (repeat (go_big_quiet_step ((fail)))); refine wpQuiet_nil ?_; intro _ hwq; obtain ⟨dq, hwq⟩ := hwq; subst hwq)
    go_wp2_with fail
    refine Calls.mono (hc.out _) ?_
    rintro _ W0 ⟨la, lc, rfl, he, oL⟩
    replace he := Lib.hid (Ext.trans (a := w) (by (repeat (first | exact Ext.refl _ | assumption | refine Ext.alloc ?_ _ | refine Ext.ext ?_ _ | refine Ext.drew ?_))) he)
    clear hc
    go_upto_region 5 with fail
    refine gen_at5 (p := fun W => Code.wp _ _ _ _ W) ?_
    intro W hW
    have hat : Hid (ArAt W W0.heap.size A) := Lib.hid ⟨la, lc, none, 0, by rw [hW]; exact heap_new _ _ rfl, by rw [hW]; exact oL.ext (Ext.alloc (Ext.refl _) _), by rw [hAe.out]; exact OI.nil _⟩
    have hE : Hid (Ext w W) := Lib.hid (he.out.trans (by rw [hW]; (repeat (first | exact Ext.refl _ | assumption | refine Ext.alloc ?_ _ | refine Ext.ext ?_ _ | refine Ext.drew ?_))))
    have hVw : Hid (w.heap.size ≤ W0.heap.size) := Lib.hid he.out.size
    obtain ⟨V, hV0⟩ : ∃ V, W0.heap.size = V := ⟨_, rfl⟩
    rw [hV0] at hat hVw ⊢
    clear hW hV0 oL he
    obtain ⟨la, lc, ha, hc, hV, oL, oH⟩ := hat.out; (have y0 := heap_cell hV 0); (have y1 := heap_cell hV 1); (have y2 := heap_cell hV 2); (have y3 := heap_cell hV 3); (have y4 := heap_cell hV 4); (have y5 := heap_cell hV 5); (have y6 := heap_cell hV 6); (have y7 := heap_cell hV 7); simp only [List.getElem?_toArray, List.getElem?_cons_succ, List.getElem?_cons_zero] at y0 y1 y2 y3 y4 y5 y6 y7; (have yl := (Array.getElem?_eq_some_iff.1 hV).1); (have hs := step_ok (A) 1 0 la ha lc hc W l0 h0 oL.rep oH.rep); rw [s1.out] at hs; simp only at hs; replace hs := Lib.hid hs; replace hV := Lib.hid hV; clear oL oH; (go_wp2_with fail); (refine Calls.mono hs.out ?_); (rintro _ W2 ⟨la', lc', ha', hc', va, vc, rfl, he, u1, u2, u3⟩); clear y0 y1 y2 y3 y4 y5 y6 y7 yl hs; replace hV := Lib.hid (heap_some_ext hV.out he); (have y0 := heap_cell hV.out 0); (have y1 := heap_cell hV.out 1); (have y2 := heap_cell hV.out 2); (have y3 := heap_cell hV.out 3); (have y4 := heap_cell hV.out 4); (have y5 := heap_cell hV.out 5); (have y6 := heap_cell hV.out 6); (have y7 := heap_cell hV.out 7); (have yf := heap_thaw hV.out); simp only [List.getElem?_toArray, List.getElem?_cons_succ, List.getElem?_cons_zero] at y0 y1 y2 y3 y4 y5 y6 y7; (have yl := (Array.getElem?_eq_some_iff.1 hV.out).1); replace hE := Lib.hid (hE.out.trans he); replace u1 := Lib.hid u1; replace u2 := Lib.hid u2; replace u3 := Lib.hid u3; clear he hat
    go_upto_region 6 with fail
    obtain ⟨pg, ph⟩ := put8 (v0 := .int .i64 (A1).Members) (v1 := .slice la' (A1).Left.length lc') (v2 := .bool (A1).Open) (v3 := .int .i64 (A1).Eager) (v4 := .slice ha' (A1).Holds.length hc') (v5 := .bool (A1).Swept) (v6 := .int .i64 (A1).Winner) (v7 := .bool (A1).Done) hV.out; clear y0 y1 y2 y3 y4 y5 y6 y7 yf yl; (refine gen_at5 (p := fun W => Code.wp _ _ _ _ W) ?_); intro W hW; rw [← hW] at pg ph; clear hW; (have hbV : ∀ b, some V = some b → ∃ cur fr, W2.heap[b]? = some (.cells cur 24 fr) := fun b e => by cases e; exact ⟨_, _, hV.out⟩); replace hE := Lib.hid (Ext.of_grown hE.out pg (fun k hk => by cases hk; exact hVw.out)); (have hv3 := Lib.hid (u3.out.grownA pg hbV)); (have hat : Hid (ArAt W V A1) := Lib.hid ⟨la', lc', ha', hc', ph, u1.out.grownA pg hbV, u2.out.grownA pg hbV⟩); clear pg ph hbV hV u1 u2 u3
    clear hv3
    obtain ⟨la, lc, ha, hc, hV, oL, oH⟩ := hat.out; (have y0 := heap_cell hV 0); (have y1 := heap_cell hV 1); (have y2 := heap_cell hV 2); (have y3 := heap_cell hV 3); (have y4 := heap_cell hV 4); (have y5 := heap_cell hV 5); (have y6 := heap_cell hV 6); (have y7 := heap_cell hV 7); simp only [List.getElem?_toArray, List.getElem?_cons_succ, List.getElem?_cons_zero] at y0 y1 y2 y3 y4 y5 y6 y7; (have yl := (Array.getElem?_eq_some_iff.1 hV).1); (have hs := step_ok (A1) 2 p la ha lc hc W l1 h1 oL.rep oH.rep); rw [s2.out] at hs; simp only at hs; replace hs := Lib.hid hs; replace hV := Lib.hid hV; clear oL oH; (go_wp2_with fail); (refine Calls.mono hs.out ?_); (rintro _ W2 ⟨la', lc', ha', hc', va, vc, rfl, he, u1, u2, u3⟩); clear y0 y1 y2 y3 y4 y5 y6 y7 yl hs; replace hV := Lib.hid (heap_some_ext hV.out he); (have y0 := heap_cell hV.out 0); (have y1 := heap_cell hV.out 1); (have y2 := heap_cell hV.out 2); (have y3 := heap_cell hV.out 3); (have y4 := heap_cell hV.out 4); (have y5 := heap_cell hV.out 5); (have y6 := heap_cell hV.out 6); (have y7 := heap_cell hV.out 7); (have yf := heap_thaw hV.out); simp only [List.getElem?_toArray, List.getElem?_cons_succ, List.getElem?_cons_zero] at y0 y1 y2 y3 y4 y5 y6 y7; (have yl := (Array.getElem?_eq_some_iff.1 hV.out).1); replace hE := Lib.hid (hE.out.trans he); replace u1 := Lib.hid u1; replace u2 := Lib.hid u2; replace u3 := Lib.hid u3; clear he hat
    go_upto_region 7 with fail
    obtain ⟨pg, ph⟩ := put8 (v0 := .int .i64 (A2).Members) (v1 := .slice la' (A2).Left.length lc') (v2 := .bool (A2).Open) (v3 := .int .i64 (A2).Eager) (v4 := .slice ha' (A2).Holds.length hc') (v5 := .bool (A2).Swept) (v6 := .int .i64 (A2).Winner) (v7 := .bool (A2).Done) hV.out; clear y0 y1 y2 y3 y4 y5 y6 y7 yf yl; (refine gen_at5 (p := fun W => Code.wp _ _ _ _ W) ?_); intro W hW; rw [← hW] at pg ph; clear hW; (have hbV : ∀ b, some V = some b → ∃ cur fr, W2.heap[b]? = some (.cells cur 24 fr) := fun b e => by cases e; exact ⟨_, _, hV.out⟩); replace hE := Lib.hid (Ext.of_grown hE.out pg (fun k hk => by cases hk; exact hVw.out)); (have hv3 := Lib.hid (u3.out.grownA pg hbV)); (have hat : Hid (ArAt W V A2) := Lib.hid ⟨la', lc', ha', hc', ph, u1.out.grownA pg hbV, u2.out.grownA pg hbV⟩); clear pg ph hbV hV u1 u2 u3
    clear hv3
    obtain ⟨la, lc, ha, hc, hV, oL, oH⟩ := hat.out; (have y0 := heap_cell hV 0); (have y1 := heap_cell hV 1); (have y2 := heap_cell hV 2); (have y3 := heap_cell hV 3); (have y4 := heap_cell hV 4); (have y5 := heap_cell hV 5); (have y6 := heap_cell hV 6); (have y7 := heap_cell hV 7); simp only [List.getElem?_toArray, List.getElem?_cons_succ, List.getElem?_cons_zero] at y0 y1 y2 y3 y4 y5 y6 y7; (have yl := (Array.getElem?_eq_some_iff.1 hV).1); (have hs := step_ok (A2) 2 q la ha lc hc W l2 h2 oL.rep oH.rep); rw [s3.out] at hs; simp only at hs; replace hs := Lib.hid hs; replace hV := Lib.hid hV; clear oL oH; (go_wp2_with fail); (refine Calls.mono hs.out ?_); (rintro _ W2 ⟨la', lc', ha', hc', va, vc, rfl, he, u1, u2, u3⟩); clear y0 y1 y2 y3 y4 y5 y6 y7 yl hs; replace hV := Lib.hid (heap_some_ext hV.out he); (have y0 := heap_cell hV.out 0); (have y1 := heap_cell hV.out 1); (have y2 := heap_cell hV.out 2); (have y3 := heap_cell hV.out 3); (have y4 := heap_cell hV.out 4); (have y5 := heap_cell hV.out 5); (have y6 := heap_cell hV.out 6); (have y7 := heap_cell hV.out 7); (have yf := heap_thaw hV.out); simp only [List.getElem?_toArray, List.getElem?_cons_succ, List.getElem?_cons_zero] at y0 y1 y2 y3 y4 y5 y6 y7; (have yl := (Array.getElem?_eq_some_iff.1 hV.out).1); replace hE := Lib.hid (hE.out.trans he); replace u1 := Lib.hid u1; replace u2 := Lib.hid u2; replace u3 := Lib.hid u3; clear he hat
    have f2 := e2.out
    have f3 := e3.out
    rw [f2] at y7
    rw [f3] at y6
    clear f2 f3 u1 u2 u3 hV
    go_wp2_with fail
    refine Calls.mono (awake_ok _) ?_
    rintro _ _ ⟨rfl, d2, rfl⟩
    go_wp2
    go_ret
    refine ⟨rfl, hE.out.trans ?_⟩
    (repeat (first | exact Ext.refl _ | assumption | refine Ext.alloc ?_ _ | refine Ext.ext ?_ _ | refine Ext.drew ?_))
  unfold o1 at e5 l3 h3
  unfold o5 at e12 e13 e14
  unfold o4 at e9 e10 e11
  unfold o3 at e9 e10 e11 l5 h5
  unfold o2 at e6 e7 e8 l4 h4 e9 e10 e11 l5 h5 e12 e13 e14
  unfold o1 at e6 e7 e8 l4 h4 e9 e10 e11 l5 h5 e12 e13 e14
  rw [← hA] at e5 l3 h3 e6 e7 e8 l4 h4 e9 e10 e11 l5 h5 e12 e13 e14
  rcases s1 : step A ⟨2, p⟩ with ⟨A1, v1, x1⟩
  rw [s1] at e5 l3 h3 e6 e7 e8 l4 h4 e9 e10 e11 l5 h5 e12 e13 e14
  simp only at e5 l3 h3 e6 e7 e8 l4 h4 e9 e10 e11 l5 h5 e12 e13 e14
  rcases s2 : step A1 ⟨2, q⟩ with ⟨A2, v2, x2⟩
  rw [s2] at e6 e7 e8 l4 h4 e9 e10 e11 l5 h5 e12 e13 e14
  simp only at e6 e7 e8 l4 h4 e9 e10 e11 l5 h5 e12 e13 e14
  subst e5 e6
  replace e7 := Lib.hid e7
  replace e8 := Lib.hid e8
  clear l1 h1 l2 h2 e1 e2 e3 e4 hA
  replace s1 := Lib.hid s1
  replace s2 := Lib.hid s2
  have hpp : Hid (0 ≤ (p : Int)) := Lib.hid (by omega)
  cases qu
  focus
    rcases s3 : step A2 ⟨1, 0⟩ with ⟨A3, v3, x3⟩
    rw [s3] at e12 e13 e14
    simp only at e12 e13 e14
    subst e12
    replace e13 := Lib.hid e13
    replace e14 := Lib.hid e14
    clear e9 e10 e11 l5 h5
    replace s3 := Lib.hid s3
    go_enter Try.func7, Try.ntmps7
    go_wp2
    (refine wp_region_ext (by kernel_rfl) (by kernel_rfl) ?_; (repeat (go_big_quiet_step ((fail)))); refine wpQuiet_nil ?_; intro _ hwq; obtain ⟨dq, hwq⟩ := hwq; subst hwq)
    go_wp2_with fail
    refine Calls.mono (hc.out _) ?_
    rintro _ W0 ⟨la, lc, rfl, he, oL⟩
    replace he := Lib.hid (Ext.trans (a := w) (by (repeat (first | exact Ext.refl _ | assumption | refine Ext.alloc ?_ _ | refine Ext.ext ?_ _ | refine Ext.drew ?_))) he)
    clear hc
    go_upto_region 6 with fail
    refine gen_at5 (p := fun W => Code.wp _ _ _ _ W) ?_
    intro W hW
    have hat : Hid (ArAt W W0.heap.size A) := Lib.hid ⟨la, lc, none, 0, by rw [hW]; exact heap_new _ _ rfl, by rw [hW]; exact oL.ext (Ext.alloc (Ext.refl _) _), by rw [hAe.out]; exact OI.nil _⟩
    have hE : Hid (Ext w W) := Lib.hid (he.out.trans (by rw [hW]; (repeat (first | exact Ext.refl _ | assumption | refine Ext.alloc ?_ _ | refine Ext.ext ?_ _ | refine Ext.drew ?_))))
    have hVw : Hid (w.heap.size ≤ W0.heap.size) := Lib.hid he.out.size
    obtain ⟨V, hV0⟩ : ∃ V, W0.heap.size = V := ⟨_, rfl⟩
    rw [hV0] at hat hVw ⊢
    clear hW hV0 oL he
    obtain ⟨la, lc, ha, hc, hV, oL, oH⟩ := hat.out; (have y0 := heap_cell hV 0); (have y1 := heap_cell hV 1); (have y2 := heap_cell hV 2); (have y3 := heap_cell hV 3); (have y4 := heap_cell hV 4); (have y5 := heap_cell hV 5); (have y6 := heap_cell hV 6); (have y7 := heap_cell hV 7); simp only [List.getElem?_toArray, List.getElem?_cons_succ, List.getElem?_cons_zero] at y0 y1 y2 y3 y4 y5 y6 y7; (have yl := (Array.getElem?_eq_some_iff.1 hV).1); (have hs := step_ok (A) 2 p la ha lc hc W l0 h0 oL.rep oH.rep); rw [s1.out] at hs; simp only at hs; replace hs := Lib.hid hs; replace hV := Lib.hid hV; clear oL oH; (go_wp2_with fail); (refine Calls.mono hs.out ?_); (rintro _ W2 ⟨la', lc', ha', hc', va, vc, rfl, he, u1, u2, u3⟩); clear y0 y1 y2 y3 y4 y5 y6 y7 yl hs; replace hV := Lib.hid (heap_some_ext hV.out he); (have y0 := heap_cell hV.out 0); (have y1 := heap_cell hV.out 1); (have y2 := heap_cell hV.out 2); (have y3 := heap_cell hV.out 3); (have y4 := heap_cell hV.out 4); (have y5 := heap_cell hV.out 5); (have y6 := heap_cell hV.out 6); (have y7 := heap_cell hV.out 7); (have yf := heap_thaw hV.out); simp only [List.getElem?_toArray, List.getElem?_cons_succ, List.getElem?_cons_zero] at y0 y1 y2 y3 y4 y5 y6 y7; (have yl := (Array.getElem?_eq_some_iff.1 hV.out).1); replace hE := Lib.hid (hE.out.trans he); replace u1 := Lib.hid u1; replace u2 := Lib.hid u2; replace u3 := Lib.hid u3; clear he hat
    go_upto_region 7 with fail
    obtain ⟨pg, ph⟩ := put8 (v0 := .int .i64 (A1).Members) (v1 := .slice la' (A1).Left.length lc') (v2 := .bool (A1).Open) (v3 := .int .i64 (A1).Eager) (v4 := .slice ha' (A1).Holds.length hc') (v5 := .bool (A1).Swept) (v6 := .int .i64 (A1).Winner) (v7 := .bool (A1).Done) hV.out; clear y0 y1 y2 y3 y4 y5 y6 y7 yf yl; (refine gen_at5 (p := fun W => Code.wp _ _ _ _ W) ?_); intro W hW; rw [← hW] at pg ph; clear hW; (have hbV : ∀ b, some V = some b → ∃ cur fr, W2.heap[b]? = some (.cells cur 24 fr) := fun b e => by cases e; exact ⟨_, _, hV.out⟩); replace hE := Lib.hid (Ext.of_grown hE.out pg (fun k hk => by cases hk; exact hVw.out)); (have hv3 := Lib.hid (u3.out.grownA pg hbV)); (have hat : Hid (ArAt W V A1) := Lib.hid ⟨la', lc', ha', hc', ph, u1.out.grownA pg hbV, u2.out.grownA pg hbV⟩); clear pg ph hbV hV u1 u2 u3
    clear hv3
    obtain ⟨la, lc, ha, hc, hV, oL, oH⟩ := hat.out; (have y0 := heap_cell hV 0); (have y1 := heap_cell hV 1); (have y2 := heap_cell hV 2); (have y3 := heap_cell hV 3); (have y4 := heap_cell hV 4); (have y5 := heap_cell hV 5); (have y6 := heap_cell hV 6); (have y7 := heap_cell hV 7); simp only [List.getElem?_toArray, List.getElem?_cons_succ, List.getElem?_cons_zero] at y0 y1 y2 y3 y4 y5 y6 y7; (have yl := (Array.getElem?_eq_some_iff.1 hV).1); (have hs := step_ok (A1) 2 q la ha lc hc W l3 h3 oL.rep oH.rep); rw [s2.out] at hs; simp only at hs; replace hs := Lib.hid hs; replace hV := Lib.hid hV; clear oL oH; (go_wp2_with fail); (refine Calls.mono hs.out ?_); (rintro _ W2 ⟨la', lc', ha', hc', va, vc, rfl, he, u1, u2, u3⟩); clear y0 y1 y2 y3 y4 y5 y6 y7 yl hs; replace hV := Lib.hid (heap_some_ext hV.out he); (have y0 := heap_cell hV.out 0); (have y1 := heap_cell hV.out 1); (have y2 := heap_cell hV.out 2); (have y3 := heap_cell hV.out 3); (have y4 := heap_cell hV.out 4); (have y5 := heap_cell hV.out 5); (have y6 := heap_cell hV.out 6); (have y7 := heap_cell hV.out 7); (have yf := heap_thaw hV.out); simp only [List.getElem?_toArray, List.getElem?_cons_succ, List.getElem?_cons_zero] at y0 y1 y2 y3 y4 y5 y6 y7; (have yl := (Array.getElem?_eq_some_iff.1 hV.out).1); replace hE := Lib.hid (hE.out.trans he); replace u1 := Lib.hid u1; replace u2 := Lib.hid u2; replace u3 := Lib.hid u3; clear he hat
    go_upto_region 13 with fail
    obtain ⟨pg, ph⟩ := put8 (v0 := .int .i64 (A2).Members) (v1 := .slice la' (A2).Left.length lc') (v2 := .bool (A2).Open) (v3 := .int .i64 (A2).Eager) (v4 := .slice ha' (A2).Holds.length hc') (v5 := .bool (A2).Swept) (v6 := .int .i64 (A2).Winner) (v7 := .bool (A2).Done) hV.out; clear y0 y1 y2 y3 y4 y5 y6 y7 yf yl; (refine gen_at5 (p := fun W => Code.wp _ _ _ _ W) ?_); intro W hW; rw [← hW] at pg ph; clear hW; (have hbV : ∀ b, some V = some b → ∃ cur fr, W2.heap[b]? = some (.cells cur 24 fr) := fun b e => by cases e; exact ⟨_, _, hV.out⟩); replace hE := Lib.hid (Ext.of_grown hE.out pg (fun k hk => by cases hk; exact hVw.out)); (have hv3 := Lib.hid (u3.out.grownA pg hbV)); (have hat : Hid (ArAt W V A2) := Lib.hid ⟨la', lc', ha', hc', ph, u1.out.grownA pg hbV, u2.out.grownA pg hbV⟩); clear pg ph hbV hV u1 u2 u3
    clear hv3
    obtain ⟨la, lc, ha, hc, hV, oL, oH⟩ := hat.out
    have y6 : W.cell? ⟨V, 6, none⟩ = some (.int .i64 (-1)) := e7.out ▸ heap_cell hV 6
    have y3 : W.cell? ⟨V, 3, none⟩ = some (.int .i64 p) := e8.out ▸ heap_cell hV 3
    have yl := (Array.getElem?_eq_some_iff.1 hV).1
    clear hV oL oH
    go_upto_region 17 with fail
    clear y3 y6 yl
    obtain ⟨la, lc, ha, hc, hV, oL, oH⟩ := hat.out; (have y0 := heap_cell hV 0); (have y1 := heap_cell hV 1); (have y2 := heap_cell hV 2); (have y3 := heap_cell hV 3); (have y4 := heap_cell hV 4); (have y5 := heap_cell hV 5); (have y6 := heap_cell hV 6); (have y7 := heap_cell hV 7); simp only [List.getElem?_toArray, List.getElem?_cons_succ, List.getElem?_cons_zero] at y0 y1 y2 y3 y4 y5 y6 y7; (have yl := (Array.getElem?_eq_some_iff.1 hV).1); (have hs := step_ok (A2) 1 0 la ha lc hc W l4 h4 oL.rep oH.rep); rw [s3.out] at hs; simp only at hs; replace hs := Lib.hid hs; replace hV := Lib.hid hV; clear oL oH; (go_wp2_with fail); (refine Calls.mono hs.out ?_); (rintro _ W2 ⟨la', lc', ha', hc', va, vc, rfl, he, u1, u2, u3⟩); clear y0 y1 y2 y3 y4 y5 y6 y7 yl hs; replace hV := Lib.hid (heap_some_ext hV.out he); (have y0 := heap_cell hV.out 0); (have y1 := heap_cell hV.out 1); (have y2 := heap_cell hV.out 2); (have y3 := heap_cell hV.out 3); (have y4 := heap_cell hV.out 4); (have y5 := heap_cell hV.out 5); (have y6 := heap_cell hV.out 6); (have y7 := heap_cell hV.out 7); (have yf := heap_thaw hV.out); simp only [List.getElem?_toArray, List.getElem?_cons_succ, List.getElem?_cons_zero] at y0 y1 y2 y3 y4 y5 y6 y7; (have yl := (Array.getElem?_eq_some_iff.1 hV.out).1); replace hE := Lib.hid (hE.out.trans he); replace u1 := Lib.hid u1; replace u2 := Lib.hid u2; replace u3 := Lib.hid u3; clear he hat
    go_upto_region 18 with fail
    obtain ⟨pg, ph⟩ := put8 (v0 := .int .i64 (A3).Members) (v1 := .slice la' (A3).Left.length lc') (v2 := .bool (A3).Open) (v3 := .int .i64 (A3).Eager) (v4 := .slice ha' (A3).Holds.length hc') (v5 := .bool (A3).Swept) (v6 := .int .i64 (A3).Winner) (v7 := .bool (A3).Done) hV.out; clear y0 y1 y2 y3 y4 y5 y6 y7 yf yl; (refine gen_at5 (p := fun W => Code.wp _ _ _ _ W) ?_); intro W hW; rw [← hW] at pg ph; clear hW; (have hbV : ∀ b, some V = some b → ∃ cur fr, W2.heap[b]? = some (.cells cur 24 fr) := fun b e => by cases e; exact ⟨_, _, hV.out⟩); replace hE := Lib.hid (Ext.of_grown hE.out pg (fun k hk => by cases hk; exact hVw.out)); (have hv3 := Lib.hid (u3.out.grownA pg hbV)); (have hat : Hid (ArAt W V A3) := Lib.hid ⟨la', lc', ha', hc', ph, u1.out.grownA pg hbV, u2.out.grownA pg hbV⟩); clear pg ph hbV hV u1 u2 u3
    clear hv3
    obtain ⟨la, lc, ha, hc, hV, oL, oH⟩ := hat.out
    have y6 : W.cell? ⟨V, 6, none⟩ = some (.int .i64 p) := e13.out ▸ heap_cell hV 6
    have y7 : W.cell? ⟨V, 7, none⟩ = some (.bool true) := e14.out ▸ heap_cell hV 7
    have yl := (Array.getElem?_eq_some_iff.1 hV).1
    clear hV oL oH hat
    have d1 : decide (0 ≤ (p : Int)) = true := decide_eq_true (by omega)
    go_wp2_with fail
    refine Calls.mono (awake_ok _) ?_
    rintro _ _ ⟨rfl, d2, rfl⟩
    go_wp2
    go_ret
    refine ⟨rfl, hE.out.trans ?_⟩
    (repeat (first | exact Ext.refl _ | assumption | refine Ext.alloc ?_ _ | refine Ext.ext ?_ _ | refine Ext.drew ?_))
  rcases s3 : step A2 ⟨3, p⟩ with ⟨A3, v3, x3⟩
  rw [s3] at e9 e10 e11 l5 h5
  simp only at e9 e10 e11 l5 h5
  rcases s4 : step A3 ⟨1, 0⟩ with ⟨A4, v4, x4⟩
  rw [s4] at e9 e10 e11
  simp only at e9 e10 e11
  subst e9
  clear e12 e13 e14
  replace s3 := Lib.hid s3
  replace s4 := Lib.hid s4
  by_cases hr0 : r = 0
  focus
    have hk : ((2 + (r : Int)) == 2) = true := by simp; omega
    rw [if_pos (by omega)] at e10
    have e11' : A4.Done = true := by rw [e11]; simp; omega
    have d1 : decide (0 ≤ 1 - (p : Int)) = true := decide_eq_true (by omega)
    have d2 : decide ((p : Int) ≤ 1) = true := decide_eq_true (by omega)
    have d3 : decide (p ≤ 1) = true := decide_eq_true (by omega)
    clear hr0
    clear e11
    replace e10 := Lib.hid e10
    have e11 := Lib.hid e11'
    clear e11'
    go_enter Try.func7, Try.ntmps7
    go_wp2
    (refine wp_region_ext (by kernel_rfl) (by kernel_rfl) ?_; (repeat (go_big_quiet_step ((fail)))); refine wpQuiet_nil ?_; intro _ hwq; obtain ⟨dq, hwq⟩ := hwq; subst hwq)
    go_wp2_with fail
    refine Calls.mono (hc.out _) ?_
    rintro _ W0 ⟨la, lc, rfl, he, oL⟩
    replace he := Lib.hid (Ext.trans (a := w) (by (repeat (first | exact Ext.refl _ | assumption | refine Ext.alloc ?_ _ | refine Ext.ext ?_ _ | refine Ext.drew ?_))) he)
    clear hc
    go_upto_region 6 with fail
    refine gen_at5 (p := fun W => Code.wp _ _ _ _ W) ?_
    intro W hW
    have hat : Hid (ArAt W W0.heap.size A) := Lib.hid ⟨la, lc, none, 0, by rw [hW]; exact heap_new _ _ rfl, by rw [hW]; exact oL.ext (Ext.alloc (Ext.refl _) _), by rw [hAe.out]; exact OI.nil _⟩
    have hE : Hid (Ext w W) := Lib.hid (he.out.trans (by rw [hW]; (repeat (first | exact Ext.refl _ | assumption | refine Ext.alloc ?_ _ | refine Ext.ext ?_ _ | refine Ext.drew ?_))))
    have hVw : Hid (w.heap.size ≤ W0.heap.size) := Lib.hid he.out.size
    obtain ⟨V, hV0⟩ : ∃ V, W0.heap.size = V := ⟨_, rfl⟩
    rw [hV0] at hat hVw ⊢
    clear hW hV0 oL he
    obtain ⟨la, lc, ha, hc, hV, oL, oH⟩ := hat.out; (have y0 := heap_cell hV 0); (have y1 := heap_cell hV 1); (have y2 := heap_cell hV 2); (have y3 := heap_cell hV 3); (have y4 := heap_cell hV 4); (have y5 := heap_cell hV 5); (have y6 := heap_cell hV 6); (have y7 := heap_cell hV 7); simp only [List.getElem?_toArray, List.getElem?_cons_succ, List.getElem?_cons_zero] at y0 y1 y2 y3 y4 y5 y6 y7; (have yl := (Array.getElem?_eq_some_iff.1 hV).1); (have hs := step_ok (A) 2 p la ha lc hc W l0 h0 oL.rep oH.rep); rw [s1.out] at hs; simp only at hs; replace hs := Lib.hid hs; replace hV := Lib.hid hV; clear oL oH; (go_wp2_with fail); (refine Calls.mono hs.out ?_); (rintro _ W2 ⟨la', lc', ha', hc', va, vc, rfl, he, u1, u2, u3⟩); clear y0 y1 y2 y3 y4 y5 y6 y7 yl hs; replace hV := Lib.hid (heap_some_ext hV.out he); (have y0 := heap_cell hV.out 0); (have y1 := heap_cell hV.out 1); (have y2 := heap_cell hV.out 2); (have y3 := heap_cell hV.out 3); (have y4 := heap_cell hV.out 4); (have y5 := heap_cell hV.out 5); (have y6 := heap_cell hV.out 6); (have y7 := heap_cell hV.out 7); (have yf := heap_thaw hV.out); simp only [List.getElem?_toArray, List.getElem?_cons_succ, List.getElem?_cons_zero] at y0 y1 y2 y3 y4 y5 y6 y7; (have yl := (Array.getElem?_eq_some_iff.1 hV.out).1); replace hE := Lib.hid (hE.out.trans he); replace u1 := Lib.hid u1; replace u2 := Lib.hid u2; replace u3 := Lib.hid u3; clear he hat
    go_upto_region 7 with fail
    obtain ⟨pg, ph⟩ := put8 (v0 := .int .i64 (A1).Members) (v1 := .slice la' (A1).Left.length lc') (v2 := .bool (A1).Open) (v3 := .int .i64 (A1).Eager) (v4 := .slice ha' (A1).Holds.length hc') (v5 := .bool (A1).Swept) (v6 := .int .i64 (A1).Winner) (v7 := .bool (A1).Done) hV.out; clear y0 y1 y2 y3 y4 y5 y6 y7 yf yl; (refine gen_at5 (p := fun W => Code.wp _ _ _ _ W) ?_); intro W hW; rw [← hW] at pg ph; clear hW; (have hbV : ∀ b, some V = some b → ∃ cur fr, W2.heap[b]? = some (.cells cur 24 fr) := fun b e => by cases e; exact ⟨_, _, hV.out⟩); replace hE := Lib.hid (Ext.of_grown hE.out pg (fun k hk => by cases hk; exact hVw.out)); (have hv3 := Lib.hid (u3.out.grownA pg hbV)); (have hat : Hid (ArAt W V A1) := Lib.hid ⟨la', lc', ha', hc', ph, u1.out.grownA pg hbV, u2.out.grownA pg hbV⟩); clear pg ph hbV hV u1 u2 u3
    clear hv3
    obtain ⟨la, lc, ha, hc, hV, oL, oH⟩ := hat.out; (have y0 := heap_cell hV 0); (have y1 := heap_cell hV 1); (have y2 := heap_cell hV 2); (have y3 := heap_cell hV 3); (have y4 := heap_cell hV 4); (have y5 := heap_cell hV 5); (have y6 := heap_cell hV 6); (have y7 := heap_cell hV 7); simp only [List.getElem?_toArray, List.getElem?_cons_succ, List.getElem?_cons_zero] at y0 y1 y2 y3 y4 y5 y6 y7; (have yl := (Array.getElem?_eq_some_iff.1 hV).1); (have hs := step_ok (A1) 2 q la ha lc hc W l3 h3 oL.rep oH.rep); rw [s2.out] at hs; simp only at hs; replace hs := Lib.hid hs; replace hV := Lib.hid hV; clear oL oH; (go_wp2_with fail); (refine Calls.mono hs.out ?_); (rintro _ W2 ⟨la', lc', ha', hc', va, vc, rfl, he, u1, u2, u3⟩); clear y0 y1 y2 y3 y4 y5 y6 y7 yl hs; replace hV := Lib.hid (heap_some_ext hV.out he); (have y0 := heap_cell hV.out 0); (have y1 := heap_cell hV.out 1); (have y2 := heap_cell hV.out 2); (have y3 := heap_cell hV.out 3); (have y4 := heap_cell hV.out 4); (have y5 := heap_cell hV.out 5); (have y6 := heap_cell hV.out 6); (have y7 := heap_cell hV.out 7); (have yf := heap_thaw hV.out); simp only [List.getElem?_toArray, List.getElem?_cons_succ, List.getElem?_cons_zero] at y0 y1 y2 y3 y4 y5 y6 y7; (have yl := (Array.getElem?_eq_some_iff.1 hV.out).1); replace hE := Lib.hid (hE.out.trans he); replace u1 := Lib.hid u1; replace u2 := Lib.hid u2; replace u3 := Lib.hid u3; clear he hat
    go_upto_region 13 with fail
    obtain ⟨pg, ph⟩ := put8 (v0 := .int .i64 (A2).Members) (v1 := .slice la' (A2).Left.length lc') (v2 := .bool (A2).Open) (v3 := .int .i64 (A2).Eager) (v4 := .slice ha' (A2).Holds.length hc') (v5 := .bool (A2).Swept) (v6 := .int .i64 (A2).Winner) (v7 := .bool (A2).Done) hV.out; clear y0 y1 y2 y3 y4 y5 y6 y7 yf yl; (refine gen_at5 (p := fun W => Code.wp _ _ _ _ W) ?_); intro W hW; rw [← hW] at pg ph; clear hW; (have hbV : ∀ b, some V = some b → ∃ cur fr, W2.heap[b]? = some (.cells cur 24 fr) := fun b e => by cases e; exact ⟨_, _, hV.out⟩); replace hE := Lib.hid (Ext.of_grown hE.out pg (fun k hk => by cases hk; exact hVw.out)); (have hv3 := Lib.hid (u3.out.grownA pg hbV)); (have hat : Hid (ArAt W V A2) := Lib.hid ⟨la', lc', ha', hc', ph, u1.out.grownA pg hbV, u2.out.grownA pg hbV⟩); clear pg ph hbV hV u1 u2 u3
    clear hv3
    obtain ⟨la, lc, ha, hc, hV, oL, oH⟩ := hat.out
    have y6 : W.cell? ⟨V, 6, none⟩ = some (.int .i64 (-1)) := e7.out ▸ heap_cell hV 6
    have y3 : W.cell? ⟨V, 3, none⟩ = some (.int .i64 p) := e8.out ▸ heap_cell hV 3
    have yl := (Array.getElem?_eq_some_iff.1 hV).1
    clear hV oL oH
    go_upto_region 16 with fail
    clear y3 y6 yl
    obtain ⟨la, lc, ha, hc, hV, oL, oH⟩ := hat.out; (have y0 := heap_cell hV 0); (have y1 := heap_cell hV 1); (have y2 := heap_cell hV 2); (have y3 := heap_cell hV 3); (have y4 := heap_cell hV 4); (have y5 := heap_cell hV 5); (have y6 := heap_cell hV 6); (have y7 := heap_cell hV 7); simp only [List.getElem?_toArray, List.getElem?_cons_succ, List.getElem?_cons_zero] at y0 y1 y2 y3 y4 y5 y6 y7; (have yl := (Array.getElem?_eq_some_iff.1 hV).1); (have hs := step_ok (A2) 3 p la ha lc hc W l4 h4 oL.rep oH.rep); rw [s3.out] at hs; simp only at hs; replace hs := Lib.hid hs; replace hV := Lib.hid hV; clear oL oH; (go_wp2_with fail); (refine Calls.mono hs.out ?_); (rintro _ W2 ⟨la', lc', ha', hc', va, vc, rfl, he, u1, u2, u3⟩); clear y0 y1 y2 y3 y4 y5 y6 y7 yl hs; replace hV := Lib.hid (heap_some_ext hV.out he); (have y0 := heap_cell hV.out 0); (have y1 := heap_cell hV.out 1); (have y2 := heap_cell hV.out 2); (have y3 := heap_cell hV.out 3); (have y4 := heap_cell hV.out 4); (have y5 := heap_cell hV.out 5); (have y6 := heap_cell hV.out 6); (have y7 := heap_cell hV.out 7); (have yf := heap_thaw hV.out); simp only [List.getElem?_toArray, List.getElem?_cons_succ, List.getElem?_cons_zero] at y0 y1 y2 y3 y4 y5 y6 y7; (have yl := (Array.getElem?_eq_some_iff.1 hV.out).1); replace hE := Lib.hid (hE.out.trans he); replace u1 := Lib.hid u1; replace u2 := Lib.hid u2; replace u3 := Lib.hid u3; clear he hat
    go_upto_region 17 with fail
    obtain ⟨pg, ph⟩ := put8 (v0 := .int .i64 (A3).Members) (v1 := .slice la' (A3).Left.length lc') (v2 := .bool (A3).Open) (v3 := .int .i64 (A3).Eager) (v4 := .slice ha' (A3).Holds.length hc') (v5 := .bool (A3).Swept) (v6 := .int .i64 (A3).Winner) (v7 := .bool (A3).Done) hV.out; clear y0 y1 y2 y3 y4 y5 y6 y7 yf yl; (refine gen_at5 (p := fun W => Code.wp _ _ _ _ W) ?_); intro W hW; rw [← hW] at pg ph; clear hW; (have hbV : ∀ b, some V = some b → ∃ cur fr, W2.heap[b]? = some (.cells cur 24 fr) := fun b e => by cases e; exact ⟨_, _, hV.out⟩); replace hE := Lib.hid (Ext.of_grown hE.out pg (fun k hk => by cases hk; exact hVw.out)); (have hv3 := Lib.hid (u3.out.grownA pg hbV)); (have hat : Hid (ArAt W V A3) := Lib.hid ⟨la', lc', ha', hc', ph, u1.out.grownA pg hbV, u2.out.grownA pg hbV⟩); clear pg ph hbV hV u1 u2 u3
    clear hv3
    obtain ⟨la, lc, ha, hc, hV, oL, oH⟩ := hat.out; (have y0 := heap_cell hV 0); (have y1 := heap_cell hV 1); (have y2 := heap_cell hV 2); (have y3 := heap_cell hV 3); (have y4 := heap_cell hV 4); (have y5 := heap_cell hV 5); (have y6 := heap_cell hV 6); (have y7 := heap_cell hV 7); simp only [List.getElem?_toArray, List.getElem?_cons_succ, List.getElem?_cons_zero] at y0 y1 y2 y3 y4 y5 y6 y7; (have yl := (Array.getElem?_eq_some_iff.1 hV).1); (have hs := step_ok (A3) 1 0 la ha lc hc W l5 h5 oL.rep oH.rep); rw [s4.out] at hs; simp only at hs; replace hs := Lib.hid hs; replace hV := Lib.hid hV; clear oL oH; (go_wp2_with fail); (refine Calls.mono hs.out ?_); (rintro _ W2 ⟨la', lc', ha', hc', va, vc, rfl, he, u1, u2, u3⟩); clear y0 y1 y2 y3 y4 y5 y6 y7 yl hs; replace hV := Lib.hid (heap_some_ext hV.out he); (have y0 := heap_cell hV.out 0); (have y1 := heap_cell hV.out 1); (have y2 := heap_cell hV.out 2); (have y3 := heap_cell hV.out 3); (have y4 := heap_cell hV.out 4); (have y5 := heap_cell hV.out 5); (have y6 := heap_cell hV.out 6); (have y7 := heap_cell hV.out 7); (have yf := heap_thaw hV.out); simp only [List.getElem?_toArray, List.getElem?_cons_succ, List.getElem?_cons_zero] at y0 y1 y2 y3 y4 y5 y6 y7; (have yl := (Array.getElem?_eq_some_iff.1 hV.out).1); replace hE := Lib.hid (hE.out.trans he); replace u1 := Lib.hid u1; replace u2 := Lib.hid u2; replace u3 := Lib.hid u3; clear he hat
    go_upto_region 18 with fail
    obtain ⟨pg, ph⟩ := put8 (v0 := .int .i64 (A4).Members) (v1 := .slice la' (A4).Left.length lc') (v2 := .bool (A4).Open) (v3 := .int .i64 (A4).Eager) (v4 := .slice ha' (A4).Holds.length hc') (v5 := .bool (A4).Swept) (v6 := .int .i64 (A4).Winner) (v7 := .bool (A4).Done) hV.out; clear y0 y1 y2 y3 y4 y5 y6 y7 yf yl; (refine gen_at5 (p := fun W => Code.wp _ _ _ _ W) ?_); intro W hW; rw [← hW] at pg ph; clear hW; (have hbV : ∀ b, some V = some b → ∃ cur fr, W2.heap[b]? = some (.cells cur 24 fr) := fun b e => by cases e; exact ⟨_, _, hV.out⟩); replace hE := Lib.hid (Ext.of_grown hE.out pg (fun k hk => by cases hk; exact hVw.out)); (have hv3 := Lib.hid (u3.out.grownA pg hbV)); (have hat : Hid (ArAt W V A4) := Lib.hid ⟨la', lc', ha', hc', ph, u1.out.grownA pg hbV, u2.out.grownA pg hbV⟩); clear pg ph hbV hV u1 u2 u3
    clear hv3
    obtain ⟨la, lc, ha, hc, hV, oL, oH⟩ := hat.out
    have y6 : W.cell? ⟨V, 6, none⟩ = some (.int .i64 (1 - p)) := e10.out ▸ heap_cell hV 6
    have y7 : W.cell? ⟨V, 7, none⟩ = some (.bool true) := e11.out ▸ heap_cell hV 7
    have yl := (Array.getElem?_eq_some_iff.1 hV).1
    clear hV oL oH hat
    go_wp2_with fail
    refine Calls.mono (awake_ok _) ?_
    rintro _ _ ⟨rfl, d2, rfl⟩
    go_wp2
    go_ret
    refine ⟨rfl, hE.out.trans ?_⟩
    (repeat (first | exact Ext.refl _ | assumption | refine Ext.alloc ?_ _ | refine Ext.ext ?_ _ | refine Ext.drew ?_))
  focus
    have hk : ((2 + (r : Int)) == 2) = false := by simp; omega
    rw [if_neg (by omega)] at e10
    have e11' : A4.Done = false := by rw [e11]; simp; omega
    clear e11
    replace e10 := Lib.hid e10
    have e11 := Lib.hid e11'
    clear e11'
    go_enter Try.func7, Try.ntmps7
    go_wp2
    (refine wp_region_ext (by kernel_rfl) (by kernel_rfl) ?_; (repeat (go_big_quiet_step ((fail)))); refine wpQuiet_nil ?_; intro _ hwq; obtain ⟨dq, hwq⟩ := hwq; subst hwq)
    go_wp2_with fail
    refine Calls.mono (hc.out _) ?_
    rintro _ W0 ⟨la, lc, rfl, he, oL⟩
    replace he := Lib.hid (Ext.trans (a := w) (by (repeat (first | exact Ext.refl _ | assumption | refine Ext.alloc ?_ _ | refine Ext.ext ?_ _ | refine Ext.drew ?_))) he)
    clear hc
    go_upto_region 6 with fail
    refine gen_at5 (p := fun W => Code.wp _ _ _ _ W) ?_
    intro W hW
    have hat : Hid (ArAt W W0.heap.size A) := Lib.hid ⟨la, lc, none, 0, by rw [hW]; exact heap_new _ _ rfl, by rw [hW]; exact oL.ext (Ext.alloc (Ext.refl _) _), by rw [hAe.out]; exact OI.nil _⟩
    have hE : Hid (Ext w W) := Lib.hid (he.out.trans (by rw [hW]; (repeat (first | exact Ext.refl _ | assumption | refine Ext.alloc ?_ _ | refine Ext.ext ?_ _ | refine Ext.drew ?_))))
    have hVw : Hid (w.heap.size ≤ W0.heap.size) := Lib.hid he.out.size
    obtain ⟨V, hV0⟩ : ∃ V, W0.heap.size = V := ⟨_, rfl⟩
    rw [hV0] at hat hVw ⊢
    clear hW hV0 oL he
    obtain ⟨la, lc, ha, hc, hV, oL, oH⟩ := hat.out; (have y0 := heap_cell hV 0); (have y1 := heap_cell hV 1); (have y2 := heap_cell hV 2); (have y3 := heap_cell hV 3); (have y4 := heap_cell hV 4); (have y5 := heap_cell hV 5); (have y6 := heap_cell hV 6); (have y7 := heap_cell hV 7); simp only [List.getElem?_toArray, List.getElem?_cons_succ, List.getElem?_cons_zero] at y0 y1 y2 y3 y4 y5 y6 y7; (have yl := (Array.getElem?_eq_some_iff.1 hV).1); (have hs := step_ok (A) 2 p la ha lc hc W l0 h0 oL.rep oH.rep); rw [s1.out] at hs; simp only at hs; replace hs := Lib.hid hs; replace hV := Lib.hid hV; clear oL oH; (go_wp2_with fail); (refine Calls.mono hs.out ?_); (rintro _ W2 ⟨la', lc', ha', hc', va, vc, rfl, he, u1, u2, u3⟩); clear y0 y1 y2 y3 y4 y5 y6 y7 yl hs; replace hV := Lib.hid (heap_some_ext hV.out he); (have y0 := heap_cell hV.out 0); (have y1 := heap_cell hV.out 1); (have y2 := heap_cell hV.out 2); (have y3 := heap_cell hV.out 3); (have y4 := heap_cell hV.out 4); (have y5 := heap_cell hV.out 5); (have y6 := heap_cell hV.out 6); (have y7 := heap_cell hV.out 7); (have yf := heap_thaw hV.out); simp only [List.getElem?_toArray, List.getElem?_cons_succ, List.getElem?_cons_zero] at y0 y1 y2 y3 y4 y5 y6 y7; (have yl := (Array.getElem?_eq_some_iff.1 hV.out).1); replace hE := Lib.hid (hE.out.trans he); replace u1 := Lib.hid u1; replace u2 := Lib.hid u2; replace u3 := Lib.hid u3; clear he hat
    go_upto_region 7 with fail
    obtain ⟨pg, ph⟩ := put8 (v0 := .int .i64 (A1).Members) (v1 := .slice la' (A1).Left.length lc') (v2 := .bool (A1).Open) (v3 := .int .i64 (A1).Eager) (v4 := .slice ha' (A1).Holds.length hc') (v5 := .bool (A1).Swept) (v6 := .int .i64 (A1).Winner) (v7 := .bool (A1).Done) hV.out; clear y0 y1 y2 y3 y4 y5 y6 y7 yf yl; (refine gen_at5 (p := fun W => Code.wp _ _ _ _ W) ?_); intro W hW; rw [← hW] at pg ph; clear hW; (have hbV : ∀ b, some V = some b → ∃ cur fr, W2.heap[b]? = some (.cells cur 24 fr) := fun b e => by cases e; exact ⟨_, _, hV.out⟩); replace hE := Lib.hid (Ext.of_grown hE.out pg (fun k hk => by cases hk; exact hVw.out)); (have hv3 := Lib.hid (u3.out.grownA pg hbV)); (have hat : Hid (ArAt W V A1) := Lib.hid ⟨la', lc', ha', hc', ph, u1.out.grownA pg hbV, u2.out.grownA pg hbV⟩); clear pg ph hbV hV u1 u2 u3
    clear hv3
    obtain ⟨la, lc, ha, hc, hV, oL, oH⟩ := hat.out; (have y0 := heap_cell hV 0); (have y1 := heap_cell hV 1); (have y2 := heap_cell hV 2); (have y3 := heap_cell hV 3); (have y4 := heap_cell hV 4); (have y5 := heap_cell hV 5); (have y6 := heap_cell hV 6); (have y7 := heap_cell hV 7); simp only [List.getElem?_toArray, List.getElem?_cons_succ, List.getElem?_cons_zero] at y0 y1 y2 y3 y4 y5 y6 y7; (have yl := (Array.getElem?_eq_some_iff.1 hV).1); (have hs := step_ok (A1) 2 q la ha lc hc W l3 h3 oL.rep oH.rep); rw [s2.out] at hs; simp only at hs; replace hs := Lib.hid hs; replace hV := Lib.hid hV; clear oL oH; (go_wp2_with fail); (refine Calls.mono hs.out ?_); (rintro _ W2 ⟨la', lc', ha', hc', va, vc, rfl, he, u1, u2, u3⟩); clear y0 y1 y2 y3 y4 y5 y6 y7 yl hs; replace hV := Lib.hid (heap_some_ext hV.out he); (have y0 := heap_cell hV.out 0); (have y1 := heap_cell hV.out 1); (have y2 := heap_cell hV.out 2); (have y3 := heap_cell hV.out 3); (have y4 := heap_cell hV.out 4); (have y5 := heap_cell hV.out 5); (have y6 := heap_cell hV.out 6); (have y7 := heap_cell hV.out 7); (have yf := heap_thaw hV.out); simp only [List.getElem?_toArray, List.getElem?_cons_succ, List.getElem?_cons_zero] at y0 y1 y2 y3 y4 y5 y6 y7; (have yl := (Array.getElem?_eq_some_iff.1 hV.out).1); replace hE := Lib.hid (hE.out.trans he); replace u1 := Lib.hid u1; replace u2 := Lib.hid u2; replace u3 := Lib.hid u3; clear he hat
    go_upto_region 13 with fail
    obtain ⟨pg, ph⟩ := put8 (v0 := .int .i64 (A2).Members) (v1 := .slice la' (A2).Left.length lc') (v2 := .bool (A2).Open) (v3 := .int .i64 (A2).Eager) (v4 := .slice ha' (A2).Holds.length hc') (v5 := .bool (A2).Swept) (v6 := .int .i64 (A2).Winner) (v7 := .bool (A2).Done) hV.out; clear y0 y1 y2 y3 y4 y5 y6 y7 yf yl; (refine gen_at5 (p := fun W => Code.wp _ _ _ _ W) ?_); intro W hW; rw [← hW] at pg ph; clear hW; (have hbV : ∀ b, some V = some b → ∃ cur fr, W2.heap[b]? = some (.cells cur 24 fr) := fun b e => by cases e; exact ⟨_, _, hV.out⟩); replace hE := Lib.hid (Ext.of_grown hE.out pg (fun k hk => by cases hk; exact hVw.out)); (have hv3 := Lib.hid (u3.out.grownA pg hbV)); (have hat : Hid (ArAt W V A2) := Lib.hid ⟨la', lc', ha', hc', ph, u1.out.grownA pg hbV, u2.out.grownA pg hbV⟩); clear pg ph hbV hV u1 u2 u3
    clear hv3
    obtain ⟨la, lc, ha, hc, hV, oL, oH⟩ := hat.out
    have y6 : W.cell? ⟨V, 6, none⟩ = some (.int .i64 (-1)) := e7.out ▸ heap_cell hV 6
    have y3 : W.cell? ⟨V, 3, none⟩ = some (.int .i64 p) := e8.out ▸ heap_cell hV 3
    have yl := (Array.getElem?_eq_some_iff.1 hV).1
    clear hV oL oH
    go_upto_region 16 with fail
    clear y3 y6 yl
    obtain ⟨la, lc, ha, hc, hV, oL, oH⟩ := hat.out; (have y0 := heap_cell hV 0); (have y1 := heap_cell hV 1); (have y2 := heap_cell hV 2); (have y3 := heap_cell hV 3); (have y4 := heap_cell hV 4); (have y5 := heap_cell hV 5); (have y6 := heap_cell hV 6); (have y7 := heap_cell hV 7); simp only [List.getElem?_toArray, List.getElem?_cons_succ, List.getElem?_cons_zero] at y0 y1 y2 y3 y4 y5 y6 y7; (have yl := (Array.getElem?_eq_some_iff.1 hV).1); (have hs := step_ok (A2) 3 p la ha lc hc W l4 h4 oL.rep oH.rep); rw [s3.out] at hs; simp only at hs; replace hs := Lib.hid hs; replace hV := Lib.hid hV; clear oL oH; (go_wp2_with fail); (refine Calls.mono hs.out ?_); (rintro _ W2 ⟨la', lc', ha', hc', va, vc, rfl, he, u1, u2, u3⟩); clear y0 y1 y2 y3 y4 y5 y6 y7 yl hs; replace hV := Lib.hid (heap_some_ext hV.out he); (have y0 := heap_cell hV.out 0); (have y1 := heap_cell hV.out 1); (have y2 := heap_cell hV.out 2); (have y3 := heap_cell hV.out 3); (have y4 := heap_cell hV.out 4); (have y5 := heap_cell hV.out 5); (have y6 := heap_cell hV.out 6); (have y7 := heap_cell hV.out 7); (have yf := heap_thaw hV.out); simp only [List.getElem?_toArray, List.getElem?_cons_succ, List.getElem?_cons_zero] at y0 y1 y2 y3 y4 y5 y6 y7; (have yl := (Array.getElem?_eq_some_iff.1 hV.out).1); replace hE := Lib.hid (hE.out.trans he); replace u1 := Lib.hid u1; replace u2 := Lib.hid u2; replace u3 := Lib.hid u3; clear he hat
    go_upto_region 17 with fail
    obtain ⟨pg, ph⟩ := put8 (v0 := .int .i64 (A3).Members) (v1 := .slice la' (A3).Left.length lc') (v2 := .bool (A3).Open) (v3 := .int .i64 (A3).Eager) (v4 := .slice ha' (A3).Holds.length hc') (v5 := .bool (A3).Swept) (v6 := .int .i64 (A3).Winner) (v7 := .bool (A3).Done) hV.out; clear y0 y1 y2 y3 y4 y5 y6 y7 yf yl; (refine gen_at5 (p := fun W => Code.wp _ _ _ _ W) ?_); intro W hW; rw [← hW] at pg ph; clear hW; (have hbV : ∀ b, some V = some b → ∃ cur fr, W2.heap[b]? = some (.cells cur 24 fr) := fun b e => by cases e; exact ⟨_, _, hV.out⟩); replace hE := Lib.hid (Ext.of_grown hE.out pg (fun k hk => by cases hk; exact hVw.out)); (have hv3 := Lib.hid (u3.out.grownA pg hbV)); (have hat : Hid (ArAt W V A3) := Lib.hid ⟨la', lc', ha', hc', ph, u1.out.grownA pg hbV, u2.out.grownA pg hbV⟩); clear pg ph hbV hV u1 u2 u3
    clear hv3
    obtain ⟨la, lc, ha, hc, hV, oL, oH⟩ := hat.out; (have y0 := heap_cell hV 0); (have y1 := heap_cell hV 1); (have y2 := heap_cell hV 2); (have y3 := heap_cell hV 3); (have y4 := heap_cell hV 4); (have y5 := heap_cell hV 5); (have y6 := heap_cell hV 6); (have y7 := heap_cell hV 7); simp only [List.getElem?_toArray, List.getElem?_cons_succ, List.getElem?_cons_zero] at y0 y1 y2 y3 y4 y5 y6 y7; (have yl := (Array.getElem?_eq_some_iff.1 hV).1); (have hs := step_ok (A3) 1 0 la ha lc hc W l5 h5 oL.rep oH.rep); rw [s4.out] at hs; simp only at hs; replace hs := Lib.hid hs; replace hV := Lib.hid hV; clear oL oH; (go_wp2_with fail); (refine Calls.mono hs.out ?_); (rintro _ W2 ⟨la', lc', ha', hc', va, vc, rfl, he, u1, u2, u3⟩); clear y0 y1 y2 y3 y4 y5 y6 y7 yl hs; replace hV := Lib.hid (heap_some_ext hV.out he); (have y0 := heap_cell hV.out 0); (have y1 := heap_cell hV.out 1); (have y2 := heap_cell hV.out 2); (have y3 := heap_cell hV.out 3); (have y4 := heap_cell hV.out 4); (have y5 := heap_cell hV.out 5); (have y6 := heap_cell hV.out 6); (have y7 := heap_cell hV.out 7); (have yf := heap_thaw hV.out); simp only [List.getElem?_toArray, List.getElem?_cons_succ, List.getElem?_cons_zero] at y0 y1 y2 y3 y4 y5 y6 y7; (have yl := (Array.getElem?_eq_some_iff.1 hV.out).1); replace hE := Lib.hid (hE.out.trans he); replace u1 := Lib.hid u1; replace u2 := Lib.hid u2; replace u3 := Lib.hid u3; clear he hat
    go_upto_region 18 with fail
    obtain ⟨pg, ph⟩ := put8 (v0 := .int .i64 (A4).Members) (v1 := .slice la' (A4).Left.length lc') (v2 := .bool (A4).Open) (v3 := .int .i64 (A4).Eager) (v4 := .slice ha' (A4).Holds.length hc') (v5 := .bool (A4).Swept) (v6 := .int .i64 (A4).Winner) (v7 := .bool (A4).Done) hV.out; clear y0 y1 y2 y3 y4 y5 y6 y7 yf yl; (refine gen_at5 (p := fun W => Code.wp _ _ _ _ W) ?_); intro W hW; rw [← hW] at pg ph; clear hW; (have hbV : ∀ b, some V = some b → ∃ cur fr, W2.heap[b]? = some (.cells cur 24 fr) := fun b e => by cases e; exact ⟨_, _, hV.out⟩); replace hE := Lib.hid (Ext.of_grown hE.out pg (fun k hk => by cases hk; exact hVw.out)); (have hv3 := Lib.hid (u3.out.grownA pg hbV)); (have hat : Hid (ArAt W V A4) := Lib.hid ⟨la', lc', ha', hc', ph, u1.out.grownA pg hbV, u2.out.grownA pg hbV⟩); clear pg ph hbV hV u1 u2 u3
    clear hv3
    obtain ⟨la, lc, ha, hc, hV, oL, oH⟩ := hat.out
    have y6 : W.cell? ⟨V, 6, none⟩ = some (.int .i64 (-1)) := e10.out ▸ heap_cell hV 6
    have y7 : W.cell? ⟨V, 7, none⟩ = some (.bool false) := e11.out ▸ heap_cell hV 7
    have yl := (Array.getElem?_eq_some_iff.1 hV).1
    clear hV oL oH hat
    go_wp2_with fail
    refine Calls.mono (awake_ok _) ?_
    rintro _ _ ⟨rfl, d2, rfl⟩
    go_wp2
    go_ret
    refine ⟨rfl, hE.out.trans ?_⟩
    (repeat (first | exact Ext.refl _ | assumption | refine Ext.alloc ?_ _ | refine Ext.ext ?_ _ | refine Ext.drew ?_))
end Go.Proofs.Ytcnmljpabmgieaa.R
