/- ArenaSweeps: the walk. -/
import Derived.Test.YtcnmljpabmgieaaAr21
import Derived.Test.YtcnmljpabmgieaaAr19
import Derived.WalkKit
import Derived.WalkSpells
import Derived.WalkLawsBesides
import Derived.Deep.QuietTactic
import Derived.BigQuiet
import Derived.BigRegion
import Derived.Lib.Hide
import Derived.Deep.RegionWith
set_option linter.unusedSimpArgs false
set_option linter.unusedVariables false
namespace Go.Proofs.Ytcnmljpabmgieaa.R
open Go.RowKit
def BoolsAt (w : World) (a : Option Addr) (n : Nat) : Prop := n = 0 ∨ ∃ b off, a = some ⟨b, off, none⟩ ∧ ∀ i, i < n → ∃ x : Bool, w.cell? ⟨b, off + i, none⟩ = some (.bool x)
theorem BoolsAt.ext {w w' : World} {a : Option Addr} {n : Nat} (h : BoolsAt w a n) (he : Ext w w') : BoolsAt w' a n := h.imp id fun ⟨b, off, h1, h2⟩ => ⟨b, off, h1, fun i hi => let ⟨x, hx⟩ := h2 i hi; ⟨x, he.cell_some hx⟩⟩
theorem sw0_snoc (k : Nat) : (sw0 (k + 1)).map (Value.int .i64) = (sw0 k).map (Value.int .i64) ++ [.int .i64 (k : Int)] := by
  unfold sw0
  rw [List.range_succ]
  simp
theorem without_snocV (l : List Int) (m : Int) (j : Nat) (x : Int) (hx : l[j]? = some x) (hq : (x == m) = false) : (without (l.take (j + 1)) m).map (Value.int .i64) = (without (l.take j) m).map (Value.int .i64) ++ [.int .i64 x] := by
  rw [without_snoc l m j x hx, hq]
  simp
set_option maxRecDepth 100000 in
set_option maxHeartbeats 4000000 in
theorem sweeps_law (n : Int) (ga : Option Addr) (gn gc : Nat) (hn : 0 ≤ n ∧ n ≤ 255) (w : World) (hgc : gn ≤ gc) (hgm : gc ≤ 9223372036854775807) (hg : BoolsAt w ga gn) : Calls Try.prog 8 #[.int .u8 n, .slice ga gn gc] w fun e w' => e = .returned (.bool true) ∧ Ext w w' := by
  obtain ⟨hn1, hn2⟩ := hn
  obtain ⟨r, hr⟩ : ∃ r : Nat, n % 8 = r := ⟨(n % 8).toNat, by omega⟩
  have hr8 : r < 8 := by omega
  have hc := fun w' => New_ok (r + 2) w' (by omega)
  obtain ⟨A, hA⟩ : ∃ A, A = (newA ((r + 2 : Nat) : Int)).1 := ⟨_, rfl⟩
  have hAe : Hid (A.Holds = []) := Lib.hid (by rw [hA]; unfold newA; rw [if_neg (by omega)])
  have hAl : A.Left.length ≤ 1000 := by rw [hA]; unfold newA; rw [if_neg (by omega)]; simp; omega
  have hAh : A.Holds.length ≤ 1000 := by rw [hAe.out]; simp
  have s1 := sw_start (r + 2) (by omega) (by omega)
  rw [← hA] at s1
  obtain ⟨A1, hA1⟩ : ∃ A1, A1 = swA (r + 2) (sw0 (r + 2)) := ⟨_, rfl⟩
  rw [← hA1] at s1
  simp only [← hA] at hc
  simp only [show (((r + 2 : Nat)) : Int) = 2 + (r : Int) by omega] at hc
  replace hc := Lib.hid hc
  replace s1 := Lib.hid s1
  replace hA1 := Lib.hid hA1
  replace hg := Lib.hid hg
  clear hA
  go_enter Try.func8, Try.ntmps8
  go_wp2_with fail
  refine Calls.mono (hc.out _) ?_
  rintro _ W0 ⟨la, lc, rfl, he, oL⟩
  replace he := Lib.hid (Ext.trans (a := w) (by (repeat (first | exact Ext.refl _ | assumption | refine Ext.alloc ?_ _ | refine Ext.ext ?_ _ | refine Ext.drew ?_))) he)
  clear hc
  go_upto_region 3 with fail
  refine gen_at5 (p := fun W => Code.wp _ _ _ _ W) ?_
  intro W hW
  have hat : Hid (ArAt W W0.heap.size A) := Lib.hid ⟨la, lc, none, 0, by rw [hW]; exact heap_new _ _ rfl, by rw [hW]; exact oL.ext (Ext.alloc (Ext.refl _) _), by rw [hAe.out]; exact OI.nil _⟩
  have hE : Hid (Ext w W) := Lib.hid (he.out.trans (by rw [hW]; (repeat (first | exact Ext.refl _ | assumption | refine Ext.alloc ?_ _ | refine Ext.ext ?_ _ | refine Ext.drew ?_))))
  have hVw : Hid (w.heap.size ≤ W0.heap.size) := Lib.hid he.out.size
  obtain ⟨V, hV0⟩ : ∃ V, W0.heap.size = V := ⟨_, rfl⟩
  rw [hV0] at hat hVw ⊢
  clear hW hV0 oL he
  obtain ⟨la, lc, ha, hc, hV, oL, oH⟩ := hat.out; (have y0 := heap_cell hV 0); (have y1 := heap_cell hV 1); (have y2 := heap_cell hV 2); (have y3 := heap_cell hV 3); (have y4 := heap_cell hV 4); (have y5 := heap_cell hV 5); (have y6 := heap_cell hV 6); (have y7 := heap_cell hV 7); simp only [List.getElem?_toArray, List.getElem?_cons_succ, List.getElem?_cons_zero] at y0 y1 y2 y3 y4 y5 y6 y7; (have yl := (Array.getElem?_eq_some_iff.1 hV).1); (have hs := step_ok (A) 1 0 la ha lc hc W hAl hAh oL.rep oH.rep); rw [s1.out] at hs; simp only at hs; replace hs := Lib.hid hs; replace hV := Lib.hid hV; clear oL oH; (go_wp2_with fail); (refine Calls.mono hs.out ?_); (rintro _ W2 ⟨la', lc', ha', hc', va, vc, rfl, he, u1, u2, u3⟩); clear y0 y1 y2 y3 y4 y5 y6 y7 yl hs; replace hV := Lib.hid (heap_some_ext hV.out he); (have y0 := heap_cell hV.out 0); (have y1 := heap_cell hV.out 1); (have y2 := heap_cell hV.out 2); (have y3 := heap_cell hV.out 3); (have y4 := heap_cell hV.out 4); (have y5 := heap_cell hV.out 5); (have y6 := heap_cell hV.out 6); (have y7 := heap_cell hV.out 7); (have yf := heap_thaw hV.out); simp only [List.getElem?_toArray, List.getElem?_cons_succ, List.getElem?_cons_zero] at y0 y1 y2 y3 y4 y5 y6 y7; (have yl := (Array.getElem?_eq_some_iff.1 hV.out).1); replace hE := Lib.hid (hE.out.trans he); replace u1 := Lib.hid u1; replace u2 := Lib.hid u2; replace u3 := Lib.hid u3; clear he hat
  go_upto_region 4 with fail
  obtain ⟨pg, ph⟩ := put8 (v0 := .int .i64 (A1).Members) (v1 := .slice la' (A1).Left.length lc') (v2 := .bool (A1).Open) (v3 := .int .i64 (A1).Eager) (v4 := .slice ha' (A1).Holds.length hc') (v5 := .bool (A1).Swept) (v6 := .int .i64 (A1).Winner) (v7 := .bool (A1).Done) hV.out; clear y0 y1 y2 y3 y4 y5 y6 y7 yf yl; (refine gen_at5 (p := fun W => Code.wp _ _ _ _ W) ?_); intro W hW; rw [← hW] at pg ph; clear hW; (have hbV : ∀ b, some V = some b → ∃ cur fr, W2.heap[b]? = some (.cells cur 24 fr) := fun b e => by cases e; exact ⟨_, _, hV.out⟩); replace hE := Lib.hid (Ext.of_grown hE.out pg (fun k hk => by cases hk; exact hVw.out)); (have hv3 := Lib.hid (u3.out.grownA pg hbV)); (have hat : Hid (ArAt W V A1) := Lib.hid ⟨la', lc', ha', hc', ph, u1.out.grownA pg hbV, u2.out.grownA pg hbV⟩); clear pg ph hbV hV u1 u2 u3
  clear hv3 hAl hAh
  rw [hA1.out] at hat
  clear s1 hA1 hAe
  go_wp2
  go_loopg [10, 11] (r + 2) (fun g v10 v11 wr => ∃ (k : Nat) (sa : Option Addr) (sc : Nat), v10 = .slice sa k sc ∧ v11 = .int .i64 k ∧ k ≤ r + 2 ∧ g = r + 2 - k ∧ Hid (Ext W wr) ∧ Hid (wr.ownsRow W.heap.size 3 1 (.slice sa k sc) k ((sw0 k).map (Value.int .i64))))
  case atStart => exact ⟨0, none, 0, rfl, rfl, Nat.zero_le _, rfl, Lib.hid (Ext.refl _), Lib.hid (World.ownsRow_nil _ _ _ _)⟩
  case round =>
    obtain ⟨k, sa, sc, rfl, rfl, hk, hgm, he, hro⟩ := hrel
    replace hgm := Lib.hid hgm
    by_cases hlt : k < r + 2
    · have d1 : decide ((k : Int) < 2 + (r : Int)) = true := decide_eq_true (by omega)
      have htk := Lib.hid (sw0_snoc k)
      have hsz : Hid (W.heap.size ≤ wr.heap.size) := Lib.hid he.out.size
      go_wp2_with (at_builtin; refine wpList_append_row _ _ _ 22 3 _ 1 8 infoI Try.underlying22 rfl (by decide) W.heap.size _ k _ (ownsRow_ext hro.out (by (repeat (first | exact Ext.refl _ | assumption | refine Ext.alloc ?_ _ | refine Ext.ext ?_ _ | refine Ext.drew ?_)))) ⟨wr.heap.size, 0, none⟩ 1 1 [.int .i64 (k : Int)] (by decide) rfl (cells_at2 (heap_alloc_new _ _) rfl) (by simp [Value.oneCell']) (by unfold maxLen; omega) (by omega) (Nat.le_trans hsz.out (by simp)) rfl rfl rfl rfl ?_; intro g2 c2 w2 hown hg2; (have he2 := Lib.hid (Ext.of_grown (he.out.trans (by (repeat (first | exact Ext.refl _ | assumption | refine Ext.alloc ?_ _ | refine Ext.ext ?_ _ | refine Ext.drew ?_)))) hg2 (fun k hk => by have := (hro.out.lt k hk).1; simpa using this))); (have hr2 := Lib.hid (by rw [← htk.out] at hown; exact hown)); clear hown hg2 hro he)
      go_roundg (r + 2 - (k + 1))
      case measure => have := hgm.out; omega
      case rel => exact ⟨k + 1, _, _, rfl, by go_num, by omega, rfl, he2, hr2⟩
    · obtain rfl : k = r + 2 := by omega
      have d1 : decide (((r : Int) + 2) < 2 + (r : Int)) = false := decide_eq_false (by omega)
      have d2 : decide (r + 2 < r + 2) = false := decide_eq_false (by omega)
      replace hE := Lib.hid (hE.out.trans he.out)
      replace hat := Lib.hid (hat.out.ext he.out)
      have hs := Lib.hid (sw_start0 (r + 2) (by omega))
      have hl0 : Hid ((sw0 (r + 2)).length = r + 2) := Lib.hid (by simp [sw0])
      have hOI : Hid (OI wr sa sc (sw0 (r + 2))) := Lib.hid (by unfold OI; rw [hl0.out]; exact own_low hro.out (Nat.zero_le _))
      clear hro he hgm
      go_wp2
      go_loopg [9, 10, 12, 13, 14] (r + 2) (fun g v9 v10 v12 v13 v14 wr => ∃ (i m : Nat) (L : List Int) (sa : Option Addr) (sc : Nat), v9 = .int .i64 0 ∧ v10 = .slice sa m sc ∧ v12 = .int .i64 i ∧ Hid (m = L.length) ∧ i ≤ r + 2 ∧ g = r + 2 - i ∧ Hid (SwL (r + 2) i L) ∧ Hid (ArAt wr V (swA (r + 2) L)) ∧ Hid (OI wr sa sc L) ∧ Hid (Ext w wr))
      case atStart => exact ⟨0, r + 2, sw0 (r + 2), _, _, rfl, rfl, rfl, Lib.hid hl0.out.symm, Nat.zero_le _, rfl, hs, hat, hOI, hE⟩
      case round =>
        clear hs hl0 hat hOI hE d1 d2 hlt hk sa sc
        obtain ⟨i, m, L, sa, sc, rfl, rfl, rfl, hm, hi, hgm, hs, hat, hO, hE⟩ := hrel
        obtain ⟨W, rfl⟩ : ∃ W, W = wr := ⟨_, rfl⟩
        replace hgm := Lib.hid hgm
        have hmk : m ≤ r + 2 := by have := hs.out.len; have := hm.out; omega
        have hm2 : 2 ≤ m := by have := hs.out.two; have := hm.out; omega
        by_cases hlt : i < r + 2 ∧ i < gn
        · obtain ⟨hlt, hlg⟩ := hlt
          have d1 : decide ((i : Int) < 2 + (r : Int)) = true := decide_eq_true (by omega)
          obtain ⟨b, off, rfl, hgc⟩ : ∃ b off, ga = some ⟨b, off, none⟩ ∧ ∀ i, i < gn → ∃ x : Bool, W.cell? ⟨b, off + i, none⟩ = some (.bool x) := by
            rcases hg.out.ext hE.out with h | h
            · omega
            · exact h
          obtain ⟨x, hx⟩ := hgc i hlg
          have hbl := World.block_lt_of_cell? W _ hx
          simp only at hbl
          clear hgc
          by_cases hq : x = true ∧ 2 < m
          · obtain ⟨rfl, hq2⟩ := hq
            have d3 : decide (2 < (m : Int)) = true := decide_eq_true (by omega)
            have hqs := sw_quit hs.out (by omega) hlt (by have := hm.out; omega)
            have hsn := Lib.hid (hs.out.quit hlt (by have := hm.out; omega))
            obtain ⟨A, hA⟩ : ∃ A, A = swA (r + 2) L := ⟨_, rfl⟩
            obtain ⟨B, hB⟩ : ∃ B, B = swA (r + 2) (without L i) := ⟨_, rfl⟩
            have hl1 : A.Left.length ≤ 1000 := by rw [hA]; show L.length ≤ 1000; have := hm.out; omega
            have hl2 : A.Holds.length ≤ 1000 := by rw [hA]; show (0 : Nat) ≤ 1000; omega
            rw [← hA] at hat hqs
            rw [← hB] at hqs
            replace hB := Lib.hid hB
            clear hA
            obtain ⟨la, lc, ha, hc, hV, oL, oH⟩ := hat.out; (have y0 := heap_cell hV 0); (have y1 := heap_cell hV 1); (have y2 := heap_cell hV 2); (have y3 := heap_cell hV 3); (have y4 := heap_cell hV 4); (have y5 := heap_cell hV 5); (have y6 := heap_cell hV 6); (have y7 := heap_cell hV 7); simp only [List.getElem?_toArray, List.getElem?_cons_succ, List.getElem?_cons_zero] at y0 y1 y2 y3 y4 y5 y6 y7; (have yl := (Array.getElem?_eq_some_iff.1 hV).1); (have hs := step_ok (A) 3 i la ha lc hc W hl1 hl2 oL.rep oH.rep); rw [hqs] at hs; simp only at hs; replace hs := Lib.hid hs; replace hV := Lib.hid hV; clear oL oH; (go_wp2_with fail); (refine Calls.mono hs.out ?_); (rintro _ W2 ⟨la', lc', ha', hc', va, vc, rfl, he, u1, u2, u3⟩); clear y0 y1 y2 y3 y4 y5 y6 y7 yl hs; replace hV := Lib.hid (heap_some_ext hV.out he); (have y0 := heap_cell hV.out 0); (have y1 := heap_cell hV.out 1); (have y2 := heap_cell hV.out 2); (have y3 := heap_cell hV.out 3); (have y4 := heap_cell hV.out 4); (have y5 := heap_cell hV.out 5); (have y6 := heap_cell hV.out 6); (have y7 := heap_cell hV.out 7); (have yf := heap_thaw hV.out); simp only [List.getElem?_toArray, List.getElem?_cons_succ, List.getElem?_cons_zero] at y0 y1 y2 y3 y4 y5 y6 y7; (have yl := (Array.getElem?_eq_some_iff.1 hV.out).1); replace hE := Lib.hid (hE.out.trans he); replace u1 := Lib.hid u1; replace u2 := Lib.hid u2; replace u3 := Lib.hid u3; (have hstep := Lib.hid he); clear he hat
            clear hl1 hl2 hqs
            go_upto_region 16 with fail
            have hbV2 : ∀ b, some V = some b → ∃ cur fr, W2.heap[b]? = some (.cells cur 24 fr) := fun b e => by cases e; exact ⟨_, _, hV.out⟩
            replace hO := Lib.hid (fun W' (pg : W2.grownBy W' (some V)) => (hO.out.ext hstep.out).grownA pg hbV2)
            clear hbV2 hstep
            obtain ⟨pg, ph⟩ := put8 (v0 := .int .i64 (B).Members) (v1 := .slice la' (B).Left.length lc') (v2 := .bool (B).Open) (v3 := .int .i64 (B).Eager) (v4 := .slice ha' (B).Holds.length hc') (v5 := .bool (B).Swept) (v6 := .int .i64 (B).Winner) (v7 := .bool (B).Done) hV.out; clear y0 y1 y2 y3 y4 y5 y6 y7 yf yl; (refine gen_at5 (p := fun W => Code.wp _ _ _ _ W) ?_); intro W hW; rw [← hW] at pg ph; clear hW; (have hbV : ∀ b, some V = some b → ∃ cur fr, W2.heap[b]? = some (.cells cur 24 fr) := fun b e => by cases e; exact ⟨_, _, hV.out⟩); replace hE := Lib.hid (Ext.of_grown hE.out pg (fun k hk => by cases hk; exact hVw.out)); (have hv3 := Lib.hid (u3.out.grownA pg hbV)); (have hat : Hid (ArAt W V B) := Lib.hid ⟨la', lc', ha', hc', ph, u1.out.grownA pg hbV, u2.out.grownA pg hbV⟩); (have hput := Lib.hid pg); clear pg ph hbV hV u1 u2 u3
            clear hv3
            replace hO := Lib.hid (hO.out _ hput.out)
            clear hput
            rw [hB.out] at hat
            have hw0 : Hid (without (L.take 0) i = []) := Lib.hid (by simp [without])
            go_wp2
            go_loopg [13, 14] m (fun g v13 v14 wr => ∃ (j q : Nat) (ta : Option Addr) (tc : Nat), v13 = .slice ta q tc ∧ v14 = .int .i64 j ∧ j ≤ m ∧ g = m - j ∧ q ≤ j ∧ Hid (q = (without (L.take j) i).length) ∧ Hid (Ext W wr) ∧ Hid (wr.ownsRow W.heap.size 3 1 (.slice ta q tc) q ((without (L.take j) i).map (Value.int .i64))))
            case atStart => exact ⟨0, 0, none, 0, rfl, rfl, Nat.zero_le _, rfl, Nat.zero_le _, Lib.hid (by rw [hw0.out]; rfl), Lib.hid (Ext.refl _), Lib.hid (by rw [hw0.out]; exact World.ownsRow_nil _ _ _ _)⟩
            case round =>
              obtain ⟨j, q, ta, tc, rfl, rfl, hj, hgj, hqj, hq, he, hro⟩ := hrel
              replace hgj := Lib.hid hgj
              by_cases hlj : j < m
              · skip
                obtain ⟨y, hy⟩ : ∃ y, L[j]? = some y := ⟨_, List.getElem?_eq_getElem (by have := hm.out; omega)⟩
                obtain ⟨b2, off2, rfl, hi2⟩ : ∃ b off, sa = some ⟨b, off, none⟩ ∧ IntsAt wr b off L := by
                  rcases hO.out.rep.ext he.out with h | h
                  · rw [h] at hy; cases hy
                  · exact h
                have c0 := hi2 j y hy
                have hbl2 := World.block_lt_of_cell? wr _ c0
                simp only at hbl2
                have hsz : Hid (W.heap.size ≤ wr.heap.size) := Lib.hid he.out.size
                clear hi2
                rcases hyi : (y == (i : Int)) with _ | _
                · have htk := Lib.hid (without_snocV L i j y hy hyi)
                  have htl : Hid (q + 1 = (without (L.take (j + 1)) i).length) := Lib.hid (by have := congrArg List.length htk.out; simp only [List.length_map, List.length_append, List.length_cons, List.length_nil] at this; rw [this, hq.out])
                  clear hy
                  go_wp2_with (at_builtin; refine wpList_append_row _ _ _ 22 3 _ 1 8 infoI Try.underlying22 rfl (by decide) W.heap.size _ q _ (ownsRow_ext hro.out (by (repeat (first | exact Ext.refl _ | assumption | refine Ext.alloc ?_ _ | refine Ext.ext ?_ _ | refine Ext.drew ?_)))) ⟨wr.heap.size, 0, none⟩ 1 1 [.int .i64 y] (by decide) rfl (cells_at2 (heap_alloc_new _ _) rfl) (by simp [Value.oneCell']) (by unfold maxLen; omega) (by omega) (Nat.le_trans hsz.out (by simp)) rfl rfl rfl rfl ?_; intro g2 c2 w2 hown hg2; (have he2 := Lib.hid (Ext.of_grown (he.out.trans (by (repeat (first | exact Ext.refl _ | assumption | refine Ext.alloc ?_ _ | refine Ext.ext ?_ _ | refine Ext.drew ?_)))) hg2 (fun k hk => by have := (hro.out.lt k hk).1; simpa using this))); (have hr2 := Lib.hid (by rw [← htk.out] at hown; exact hown)); clear hown hg2 hro he)
                  go_roundg (m - (j + 1))
                  case measure => have := hgj.out; omega
                  case rel => exact ⟨j + 1, _, _, _, rfl, by go_num, by omega, rfl, by omega, htl, he2, hr2⟩
                · have htk := without_snoc L i j y hy
                  rw [hyi] at htk
                  simp only [if_true, List.append_nil] at htk
                  replace htk := Lib.hid htk
                  clear hy
                  go_wp2
                  go_roundg (m - (j + 1))
                  case measure => have := hgj.out; omega
                  case rel => exact ⟨j + 1, q, ta, tc, rfl, by go_num, by omega, rfl, by omega, Lib.hid (by rw [htk.out, hq.out]), he, Lib.hid (by rw [htk.out]; exact hro.out)⟩
              · obtain rfl : j = m := by omega
                have htk : L.take j = L := List.take_of_length_le (by have := hm.out; omega)
                rw [htk] at hq hro
                have hO3 : Hid (OI wr ta tc (without L i)) := Lib.hid (by unfold OI; rw [← hq.out]; exact own_low hro.out (Nat.zero_le _))
                replace hE := Lib.hid (hE.out.trans he.out)
                replace hat := Lib.hid (hat.out.ext he.out)
                clear he hro htk
                go_wp2
                go_roundg (r + 2 - (i + 1))
                case measure => have := hgm.out; omega
                case rel => exact ⟨i + 1, q, without L i, ta, tc, rfl, rfl, by go_num, hq, by omega, rfl, hsn, hat, hO3, hE⟩
          · have hnx := Lib.hid hs.out.next
            rcases Classical.em (x = false) with rfl | hxx
            · go_wp2
              go_roundg (r + 2 - (i + 1))
              case measure => have := hgm.out; omega
              case rel => exact ⟨i + 1, m, L, sa, sc, rfl, rfl, by go_num, hm, by omega, rfl, hnx, hat, hO, hE⟩
            · obtain rfl : x = true := by simpa using hxx
              have d3 : decide (2 < (m : Int)) = false := decide_eq_false (fun h => hq ⟨rfl, by omega⟩)
              have d4 : decide (2 < m) = false := decide_eq_false (fun h => hq ⟨rfl, by omega⟩)
              clear hq hxx
              go_wp2
              go_roundg (r + 2 - (i + 1))
              case measure => have := hgm.out; omega
              case rel => exact ⟨i + 1, m, L, sa, sc, rfl, rfl, by go_num, hm, by omega, rfl, hnx, hat, hO, hE⟩
        · have hbr : decide ((i : Int) < 2 + (r : Int)) = false ∨ (decide ((i : Int) < 2 + (r : Int)) = true ∧ decide ((i : Int) < (gn : Int)) = false ∧ decide (i < gn) = false) := by
            by_cases h : i < r + 2
            · exact .inr ⟨decide_eq_true (by omega), decide_eq_false (fun h2 => hlt ⟨h, by omega⟩), decide_eq_false (fun h2 => hlt ⟨h, by omega⟩)⟩
            · exact .inl (decide_eq_false (by omega))
          clear hlt
          have hqs := sw_sweep hs.out (by omega)
          obtain ⟨x0, hx0⟩ : ∃ x0, L[0]? = some x0 := ⟨_, List.getElem?_eq_getElem (by have := hm.out; omega)⟩
          have hxh : L.headD 0 = x0 := by
            rcases L with _ | ⟨y, L⟩
            · cases hx0
            · simpa using hx0
          rw [hxh] at hqs
          obtain ⟨A, hA⟩ : ∃ A, A = swA (r + 2) L := ⟨_, rfl⟩
          have hl1 : A.Left.length ≤ 1000 := by rw [hA]; show L.length ≤ 1000; have := hm.out; omega
          have hl2 : A.Holds.length ≤ 1000 := by rw [hA]; show (0 : Nat) ≤ 1000; omega
          rw [← hA] at hat hqs
          obtain ⟨vs, hvs⟩ : ∃ vs, vs = L.map (fun x => (⟨x, x == x0⟩ : Vd)) := ⟨_, rfl⟩
          rw [← hvs] at hqs
          have hvl : vs.length = m := by rw [hvs, List.length_map, hm.out]
          have hv0 : vs[0]? = some ⟨x0, true⟩ := by rw [hvs, List.getElem?_map, hx0]; simp
          obtain ⟨m0, hm0⟩ : ∃ m0 : Int, ((r + 2 : Nat) : Int) = m0 := ⟨_, rfl⟩
          rw [hm0] at hqs
          replace hqs := Lib.hid hqs
          replace hvl := Lib.hid hvl
          replace hv0 := Lib.hid hv0
          replace hx0 := Lib.hid hx0
          clear hA hvs hxh hm0
          rcases hbr with z1 | ⟨z1, z2, z3⟩
          all_goals
            obtain ⟨la, lc, ha, hc, hV, oL, oH⟩ := hat.out; (have y0 := heap_cell hV 0); (have y1 := heap_cell hV 1); (have y2 := heap_cell hV 2); (have y3 := heap_cell hV 3); (have y4 := heap_cell hV 4); (have y5 := heap_cell hV 5); (have y6 := heap_cell hV 6); (have y7 := heap_cell hV 7); simp only [List.getElem?_toArray, List.getElem?_cons_succ, List.getElem?_cons_zero] at y0 y1 y2 y3 y4 y5 y6 y7; (have yl := (Array.getElem?_eq_some_iff.1 hV).1); (have hs := step_ok (A) 6 0 la ha lc hc W hl1 hl2 oL.rep oH.rep); rw [hqs.out] at hs; simp only at hs; replace hs := Lib.hid hs; replace hV := Lib.hid hV; clear oL oH; (go_wp2_with fail); (refine Calls.mono hs.out ?_); (rintro _ W2 ⟨la', lc', ha', hc', va, vc, rfl, he, u1, u2, u3⟩); clear y0 y1 y2 y3 y4 y5 y6 y7 yl hs; replace hV := Lib.hid (heap_some_ext hV.out he); (have y0 := heap_cell hV.out 0); (have y1 := heap_cell hV.out 1); (have y2 := heap_cell hV.out 2); (have y3 := heap_cell hV.out 3); (have y4 := heap_cell hV.out 4); (have y5 := heap_cell hV.out 5); (have y6 := heap_cell hV.out 6); (have y7 := heap_cell hV.out 7); (have yf := heap_thaw hV.out); simp only [List.getElem?_toArray, List.getElem?_cons_succ, List.getElem?_cons_zero] at y0 y1 y2 y3 y4 y5 y6 y7; (have yl := (Array.getElem?_eq_some_iff.1 hV.out).1); replace hE := Lib.hid (hE.out.trans he); replace u1 := Lib.hid u1; replace u2 := Lib.hid u2; replace u3 := Lib.hid u3; (have hstep := Lib.hid he); clear he hat
            clear hl1 hl2 hqs
            simp only [hvl.out]
            go_upto_region 26 with fail
            clear y0 y1 y2 y3 y4 y5 y6 y7 yl hV u1 u2
            obtain ⟨g, rfl, hvd⟩ := u3.out.rep.resolve_left (by intro h; have := hv0.out; rw [h] at this; cases this)
            obtain ⟨k0, k1⟩ := hvd 0 _ hv0.out
            have gl := World.block_lt_of_cell? W2 _ k0
            simp only at gl
            obtain ⟨b2, off2, rfl, hi2⟩ := (hO.out.rep.ext hstep.out).resolve_left (by intro h; have := hx0.out; rw [h] at this; cases this)
            have c0 := hi2 0 _ hx0.out
            have cl := World.block_lt_of_cell? W2 _ c0
            simp only at cl
            clear hi2 hvd hstep hO u3
            simp only [Nat.zero_mul, Nat.zero_add, Nat.add_zero] at k0 k1 c0 cl
            have hmz : 0 < m := by omega
            (refine wp_region_ext (by kernel_rfl) (by kernel_rfl) ?_; (repeat (go_big_quiet_step ((go_at_call 16; exact Calls.quiet_ext (awake_ok _))))); refine wpQuiet_nil ?_; intro _ hwq; obtain ⟨dq, hwq⟩ := hwq; subst hwq)
            go_wp2
            go_ret
            refine ⟨rfl, ?_⟩
            exact hE.out.trans (by (repeat (first | exact Ext.refl _ | assumption | refine Ext.alloc ?_ _ | refine Ext.ext ?_ _ | refine Ext.drew ?_)))
end Go.Proofs.Ytcnmljpabmgieaa.R
