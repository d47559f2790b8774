/- The reference's arena: Check. -/
import Derived.Test.YtcnmljpabmgieaaAr27
import Derived.Deep.DeepCutAuto
import Derived.WalkKit
import Derived.WalkSpells
import Derived.WalkLawsBesides
import Derived.Deep.QuietTactic
import Derived.BigQuiet
import Derived.BigRegion
import Derived.Lib.Hide
import Derived.Deep.RegionWith
set_option linter.unusedSimpArgs false
set_option linter.unusedVariables false
namespace Go.Proofs.Ytcnmljpabmgieaa.R
open Go.RowKit
theorem all_take_has (l m : List Int) (k : Nat) (x : Int) (hx : l[k]? = some x) : (l.take (k + 1)).all (has m) = ((l.take k).all (has m) && has m x) := by
  rw [List.take_add_one, hx, List.all_append]
  simp
set_option maxRecDepth 100000 in
set_option maxHeartbeats 8000000 in
theorem rCheck_ok (a : Arn) (la ha : Option Addr) (lc hc : Nat) (w : World) (hl : a.Left.length ≤ 1000000) (hl2 : a.Holds.length ≤ 1000000) (h1 : RepI w la a.Left) (h2 : RepI w ha a.Holds) :
    Calls Try.prog 15 #[.agg #[.int .i64 (a).Members, .slice la (a).Left.length lc, .bool (a).Open, .int .i64 (a).Eager, .slice ha (a).Holds.length hc, .bool (a).Swept, .int .i64 (a).Winner, .bool (a).Done]] w fun e w' => e = .returned (.int .i64 (check a)) ∧ Ext w w' := by
  obtain ⟨Z, hZ⟩ : ∃ Z, Z = check a := ⟨_, rfl⟩
  rw [← hZ]
  have hA1 := Lib.hid fun w' (he : Ext w w') => rAsc_ok a.Left a.Members la lc w' hl (h1.ext he)
  have hA2 := Lib.hid fun w' (he : Ext w w') => rAsc_ok a.Holds a.Members ha hc w' hl2 (h2.ext he)
  have hHs := Lib.hid fun m w' (he : Ext w w') => rHas_ok a.Left m la lc w' hl (h1.ext he)
  have hHx := Lib.hid fun m w' (he : Ext w w') => (rHas_ok a.Left m la lc w' hl (h1.ext he)).mono fun e w'' (h : _ ∧ _) => (⟨h.1, h.2 ▸ Ext.refl _⟩ : e = .returned (.bool (has a.Left m)) ∧ Ext w' w'')
  have hr2 := Lib.hid fun w' (he : Ext w w') => h2.ext he
  obtain ⟨n, hn⟩ : ∃ n, n = a.Left.length := ⟨_, rfl⟩
  obtain ⟨nh, hnh⟩ : ∃ n, n = a.Holds.length := ⟨_, rfl⟩
  rw [← hn] at hA1 hHs hHx hl ⊢
  rw [← hnh] at hA2 hl2 ⊢
  replace hn := Lib.hid hn
  replace hnh := Lib.hid hnh
  replace hZ := Lib.hid hZ
  clear h1 h2
  go_enter Try.func15, Try.ntmps15
  go_upto_region 1 with fail
  go_cut [3] (fun v3 wc => ∃ (g : Bool) (D : Grow), v3 = .bool g ∧ Hid (g = good0 a) ∧ wc = (w.alloc (.cells #[.int .i64 a.Members, .slice la n lc, .bool a.Open, .int .i64 a.Eager, .slice ha nh hc, .bool a.Swept, .int .i64 a.Winner, .bool a.Done] 24)).ext D)
  case first =>
    rcases p1 : decide (0 ≤ a.Members) with _ | _
    · go_wp2
      go_meet
      case rel => exact ⟨_, World.grow0 _, rfl, Lib.hid (by simp [good0, p1]), (World.ext_none _).symm⟩
    rcases p2 : decide (a.Members ≤ 24) with _ | _
    · go_wp2
      go_meet
      case rel => exact ⟨_, World.grow0 _, rfl, Lib.hid (by simp [good0, p1, p2]), (World.ext_none _).symm⟩
    go_wp2_with fail
    refine Calls.mono (hA1.out _ (by (repeat (first | exact Ext.refl _ | assumption | refine Ext.alloc ?_ _ | refine Ext.ext ?_ _ | refine Ext.drew ?_)))) ?_
    rintro _ _ ⟨rfl, d1, rfl⟩
    rcases p3 : asc a.Left a.Members with _ | _
    · go_wp2
      go_meet
      case rel => exact ⟨_, d1, rfl, Lib.hid (by simp [good0, p1, p2, p3]), rfl⟩
    go_wp2_with fail
    refine Calls.mono (hA2.out _ (by (repeat (first | exact Ext.refl _ | assumption | refine Ext.alloc ?_ _ | refine Ext.ext ?_ _ | refine Ext.drew ?_)))) ?_
    rintro _ _ ⟨rfl, d2, rfl⟩
    rcases p4 : asc a.Holds a.Members with _ | _
    · go_wp2
      go_meet
      case rel => exact ⟨_, d1.add d2, rfl, Lib.hid (by simp [good0, p1, p2, p3, p4]), World.ext_ext _ _ _⟩
    · go_wp2
      go_meet
      case rel => exact ⟨_, d1.add d2, rfl, Lib.hid (by simp [good0, p1, p2, p3, p4]), World.ext_ext _ _ _⟩
  case rest =>
    obtain ⟨g, D, rfl, hg, hwc⟩ := hcut
    subst hwc
    clear hA1 hA2
    go_wp2
    go_loopg [3, 4] nh (fun gm v3 v4 wr => ∃ (k : Nat) (g : Bool) (D : Grow), v3 = .bool g ∧ v4 = .int .i64 k ∧ k ≤ nh ∧ gm = nh - k ∧ Hid (g = (good0 a && (a.Holds.take k).all (has a.Left))) ∧ wr = (w.alloc (.cells #[.int .i64 a.Members, .slice la n lc, .bool a.Open, .int .i64 a.Eager, .slice ha nh hc, .bool a.Swept, .int .i64 a.Winner, .bool a.Done] 24)).ext D)
    case atStart => exact ⟨0, g, D, rfl, rfl, Nat.zero_le _, rfl, Lib.hid (by rw [hg.out]; simp), rfl⟩
    case round =>
      clear hg
      obtain ⟨k, g, D, rfl, rfl, hk, hgm, hg, hwr⟩ := hrel
      subst hwr
      replace hgm := Lib.hid hgm
      by_cases hlt : k < nh
      · obtain ⟨x, hx⟩ : ∃ x, a.Holds[k]? = some x := ⟨_, List.getElem?_eq_getElem (by have := hnh.out; omega)⟩
        have hsn := all_take_has a.Holds a.Left k x hx
        obtain ⟨b, off, rfl, hi⟩ := (hr2.out w (Ext.refl _)).resolve_left (by intro h; rw [h] at hx; cases hx)
        have c0 := hi k x hx
        have hbl := World.block_lt_of_cell? _ _ c0
        simp only at hbl
        clear hi hx
        cases g
        · have hf : Hid (false = (good0 a && (a.Holds.take (k + 1)).all (has a.Left))) := Lib.hid (by rw [hsn, ← Bool.and_assoc, ← hg.out]; rfl)
          clear hsn hg c0 hbl
          go_wp2
          (refine wp_region_ext (by kernel_rfl) (by kernel_rfl) ?_; (repeat (go_big_quiet_step ((fail)))); refine wpQuiet_nil ?_; intro _ hwq; obtain ⟨dq, hwq⟩ := hwq; subst hwq)
          go_wp2
          go_roundg (nh - (k + 1))
          case measure => have := hgm.out; omega
          case rel => exact ⟨k + 1, false, D.add dq, rfl, by go_num, by omega, rfl, hf, World.ext_ext _ _ _⟩
        · have hf : Hid (has a.Left x = (good0 a && (a.Holds.take (k + 1)).all (has a.Left))) := Lib.hid (by rw [hsn, ← Bool.and_assoc, ← hg.out]; rfl)
          clear hsn hg
          go_wp2
          (refine wp_region_ext (by kernel_rfl) (by kernel_rfl) ?_; (repeat (go_big_quiet_step ((go_at_call 31; exact Calls.quiet_ext (hHx.out x _ (by (repeat (first | exact Ext.refl _ | assumption | refine Ext.alloc ?_ _ | refine Ext.ext ?_ _ | refine Ext.drew ?_)))))))); refine wpQuiet_nil ?_; intro _ hwq; obtain ⟨dq, hwq⟩ := hwq; subst hwq)
          go_wp2
          go_roundg (nh - (k + 1))
          case measure => have := hgm.out; omega
          case rel => exact ⟨k + 1, _, D.add dq, rfl, by go_num, by omega, rfl, hf, World.ext_ext _ _ _⟩
      · obtain rfl : nh = k := by omega
        have hg0 : Hid (g = (good0 a && a.Holds.all (has a.Left))) := Lib.hid (by have := hg.out; rwa [hnh.out, List.take_length] at this)
        clear hg hgm hr2
        go_upto_region 6 with fail
        refine gen_at5 (p := fun W => Code.wp _ _ _ _ W) ?_
        intro W hW
        have hE : Hid (Ext w W) := Lib.hid (by rw [hW]; (repeat (first | exact Ext.refl _ | assumption | refine Ext.alloc ?_ _ | refine Ext.ext ?_ _ | refine Ext.drew ?_)))
        have hB : W.heap[w.heap.size]? = some (.cells #[.int .i64 a.Members, .slice la n lc, .bool a.Open, .int .i64 a.Eager, .slice ha nh hc, .bool a.Swept, .int .i64 a.Winner, .bool a.Done] 24) := by rw [hW]; exact heap_ext1 (heap_new _ _ rfl)
        obtain ⟨B, hBe⟩ : ∃ B, w.heap.size = B := ⟨_, rfl⟩
        simp only [hBe] at hB ⊢
        have y0 := heap_cell hB 0
        have y1 := heap_cell hB 1
        have y2 := heap_cell hB 2
        have y3 := heap_cell hB 3
        have y4 := heap_cell hB 4
        have y5 := heap_cell hB 5
        have y6 := heap_cell hB 6
        have y7 := heap_cell hB 7
        simp only [List.getElem?_toArray, List.getElem?_cons_succ, List.getElem?_cons_zero] at y0 y1 y2 y3 y4 y5 y6 y7
        have yl := (Array.getElem?_eq_some_iff.1 hB).1
        clear hW hB hBe
        go_cut [0, 3] (fun v0 v3 wc => ∃ (gg : Bool), v3 = .bool gg ∧ Hid (gg = (g && good1 a)) ∧ wc = W)
        case first =>
          cases g
          focus
            go_wp2
            go_meet
            case rel => exact ⟨_, rfl, Lib.hid (by simp), rfl⟩
          by_cases e1 : a.Eager = -1
          focus
            go_wp2
            go_meet
            case rel => exact ⟨_, rfl, Lib.hid (by simp [good1, e1]), rfl⟩
          go_wp2_with fail
          refine Calls.mono (hHs.out a.Eager _ hE.out) ?_
          rintro _ _ ⟨rfl, rfl⟩
          rcases p1 : has a.Left a.Eager with _ | _
          focus
            go_wp2
            go_meet
            case rel => exact ⟨_, rfl, Lib.hid (by simp [good1, e1, p1]), rfl⟩
          focus
            go_wp2
            go_meet
            case rel => exact ⟨_, rfl, Lib.hid (by simp [good1, e1, p1]), rfl⟩
        case rest =>
          obtain ⟨g1, rfl, hg1, hwc⟩ := hcut
          rw [hwc]
          clear hwc wc
          replace hg1 : Hid (g1 = (good0 a && a.Holds.all (has a.Left) && good1 a)) := Lib.hid (by rw [hg1.out, hg0.out])
          clear hg0 g
          obtain ⟨g, rfl⟩ : ∃ g, g = g1 := ⟨_, rfl⟩
          go_upto_region 7 with fail
          go_cut [0, 3] (fun v0 v3 wc => ∃ (gg : Bool), v3 = .bool gg ∧ Hid (gg = (g && good2 a)) ∧ wc = W)
          case first =>
            cases g
            focus
              go_wp2
              go_meet
              case rel => exact ⟨_, rfl, Lib.hid (by simp), rfl⟩
            by_cases e1 : a.Winner = -1
            focus
              go_wp2
              go_meet
              case rel => exact ⟨_, rfl, Lib.hid (by simp [good2, e1]), rfl⟩
            rcases p1 : decide (0 ≤ a.Winner) with _ | _
            focus
              go_wp2
              go_meet
              case rel => exact ⟨_, rfl, Lib.hid (by simp [good2, e1, p1]), rfl⟩
            rcases p2 : decide (a.Winner < a.Members) with _ | _
            focus
              go_wp2
              go_meet
              case rel => exact ⟨_, rfl, Lib.hid (by simp [good2, e1, p1, p2]), rfl⟩
            focus
              go_wp2
              go_meet
              case rel => exact ⟨_, rfl, Lib.hid (by simp [good2, e1, p1, p2]), rfl⟩
          case rest =>
            obtain ⟨g2, rfl, hg2, hwc⟩ := hcut
            rw [hwc]
            clear hwc wc
            replace hg2 : Hid (g2 = (good0 a && a.Holds.all (has a.Left) && good1 a && good2 a)) := Lib.hid (by rw [hg2.out, hg1.out])
            clear hg1 g
            obtain ⟨g, rfl⟩ : ∃ g, g = g2 := ⟨_, rfl⟩
            as_aux_lemma =>
              go_upto_region 8 with fail
              go_cut [0, 3] (fun v0 v3 wc => ∃ (gg : Bool), v3 = .bool gg ∧ Hid (gg = (g && good3 a)) ∧ wc = W)
              case first =>
                cases g
                focus
                  go_wp2
                  go_meet
                  case rel => exact ⟨_, rfl, Lib.hid (by simp), rfl⟩
                rcases p1 : a.Done with _ | _
                focus
                  go_wp2
                  go_meet
                  case rel => exact ⟨_, rfl, Lib.hid (by simp [good3, p1]), rfl⟩
                rcases p2 : a.Open with _ | _
                rotate_left
                focus
                  go_wp2
                  go_meet
                  case rel => exact ⟨_, rfl, Lib.hid (by simp [good3, p1, p2]), rfl⟩
                rcases p3 : a.Swept with _ | _
                rotate_left
                focus
                  go_wp2
                  go_meet
                  case rel => exact ⟨_, rfl, Lib.hid (by simp [good3, p1, p2, p3]), rfl⟩
                have hnn := hn.out
                have hnn2 := hnh.out
                rcases p4 : decide (n = 0) with _ | _
                focus
                  have q4 : ((n : Int) == 0) = false := by simp at p4 ⊢; exact p4
                  replace hnn := Lib.hid hnn
                  replace hnn2 := Lib.hid hnn2
                  go_wp2
                  go_meet
                  case rel => exact ⟨_, rfl, Lib.hid (by simp only [good3, p1, p2, p3, ← hnn.out, p4]; rfl), rfl⟩
                have q4 : ((n : Int) == 0) = true := by simp at p4 ⊢; exact p4
                rcases p5 : decide (nh = 0) with _ | _
                focus
                  have q5 : ((nh : Int) == 0) = false := by simp at p5 ⊢; exact p5
                  replace hnn := Lib.hid hnn
                  replace hnn2 := Lib.hid hnn2
                  go_wp2
                  go_meet
                  case rel => exact ⟨_, rfl, Lib.hid (by simp only [good3, p1, p2, p3, ← hnn.out, ← hnn2.out, p4, p5]; rfl), rfl⟩
                focus
                  have q5 : ((nh : Int) == 0) = true := by simp at p5 ⊢; exact p5
                  replace hnn := Lib.hid hnn
                  replace hnn2 := Lib.hid hnn2
                  go_wp2
                  go_meet
                  case rel => exact ⟨_, rfl, Lib.hid (by simp only [good3, p1, p2, p3, ← hnn.out, ← hnn2.out, p4, p5]; rfl), rfl⟩
              case rest =>
                obtain ⟨g3, rfl, hg3, hwc⟩ := hcut
                rw [hwc]
                clear hwc wc
                replace hg3 : Hid (g3 = (good0 a && a.Holds.all (has a.Left) && good1 a && good2 a && good3 a)) := Lib.hid (by rw [hg3.out, hg2.out])
                clear hg2 g
                obtain ⟨g, rfl⟩ : ∃ g, g = g3 := ⟨_, rfl⟩
                go_upto_region 9 with fail
                go_cut [0, 3] (fun v0 v3 wc => ∃ (gg : Bool), v3 = .bool gg ∧ Hid (gg = (g && good4 a)) ∧ wc = W)
                case first =>
                  cases g
                  focus
                    go_wp2
                    go_meet
                    case rel => exact ⟨_, rfl, Lib.hid (by simp), rfl⟩
                  rcases p1 : a.Open with _ | _
                  rotate_left
                  focus
                    go_wp2
                    go_meet
                    case rel => exact ⟨_, rfl, Lib.hid (by simp [good4, p1]), rfl⟩
                  rcases p2 : a.Done with _ | _
                  rotate_left
                  focus
                    go_wp2
                    go_meet
                    case rel => exact ⟨_, rfl, Lib.hid (by simp [good4, p1, p2]), rfl⟩
                  have hnn := hn.out
                  rcases p4 : decide (2 ≤ n) with _ | _
                  focus
                    have q4 : decide (2 ≤ (n : Int)) = false := by simp at p4 ⊢; omega
                    replace hnn := Lib.hid hnn
                    go_wp2
                    go_meet
                    case rel => exact ⟨_, rfl, Lib.hid (by simp only [good4, p1, p2, ← hnn.out, p4]; rfl), rfl⟩
                  focus
                    have q4 : decide (2 ≤ (n : Int)) = true := by simp at p4 ⊢; omega
                    replace hnn := Lib.hid hnn
                    go_wp2
                    go_meet
                    case rel => exact ⟨_, rfl, Lib.hid (by simp only [good4, p1, p2, ← hnn.out, p4]; rfl), rfl⟩
                case rest =>
                  obtain ⟨g4, rfl, hg4, hwc⟩ := hcut
                  rw [hwc]
                  clear hwc wc
                  replace hg4 : Hid (g4 = (good0 a && a.Holds.all (has a.Left) && good1 a && good2 a && good3 a && good4 a)) := Lib.hid (by rw [hg4.out, hg3.out])
                  clear hg3 g
                  obtain ⟨g, rfl⟩ : ∃ g, g = g4 := ⟨_, rfl⟩
                  go_upto_region 10 with fail
                  go_cut [0, 3] (fun v0 v3 wc => ∃ (gg : Bool), v3 = .bool gg ∧ Hid (gg = (g && good5 a)) ∧ wc = W)
                  case first =>
                    cases g
                    focus
                      go_wp2
                      go_meet
                      case rel => exact ⟨_, rfl, Lib.hid (by simp), rfl⟩
                    rcases p1 : a.Swept with _ | _
                    focus
                      go_wp2
                      go_meet
                      case rel => exact ⟨_, rfl, Lib.hid (by simp [good5, p1]), rfl⟩
                    rcases p2 : a.Open with _ | _
                    rotate_left
                    focus
                      go_wp2
                      go_meet
                      case rel => exact ⟨_, rfl, Lib.hid (by simp [good5, p1, p2]), rfl⟩
                    have hnn2 := hnh.out
                    rcases p5 : decide (0 < nh) with _ | _
                    focus
                      have q5 : decide (0 < (nh : Int)) = false := by simp at p5 ⊢; omega
                      replace hnn2 := Lib.hid hnn2
                      go_wp2
                      go_meet
                      case rel => exact ⟨_, rfl, Lib.hid (by simp only [good5, p1, p2, ← hnn2.out, p5]; rfl), rfl⟩
                    focus
                      have q5 : decide (0 < (nh : Int)) = true := by simp at p5 ⊢; omega
                      replace hnn2 := Lib.hid hnn2
                      go_wp2
                      go_meet
                      case rel => exact ⟨_, rfl, Lib.hid (by simp only [good5, p1, p2, ← hnn2.out, p5]; rfl), rfl⟩
                  case rest =>
                    obtain ⟨g5, rfl, hg5, hwc⟩ := hcut
                    rw [hwc]
                    clear hwc wc
                    replace hg5 : Hid (g5 = (good0 a && a.Holds.all (has a.Left) && good1 a && good2 a && good3 a && good4 a && good5 a)) := Lib.hid (by rw [hg5.out, hg4.out])
                    clear hg4 g
                    obtain ⟨g, rfl⟩ : ∃ g, g = g5 := ⟨_, rfl⟩
                    have hZ2 : Hid (Z = if g then 0 else 12) := Lib.hid (by rw [hZ.out, ← rcheck_eq, hg5.out]; rfl)
                    cases g
                    focus
                      have hz : Hid (Z = 12) := Lib.hid (by rw [hZ2.out]; rfl)
                      go_wp2
                      go_ret
                      exact ⟨by rw [hz.out]; rfl, hE.out⟩
                    focus
                      have hz : Hid (Z = 0) := Lib.hid (by rw [hZ2.out]; rfl)
                      go_wp2
                      go_ret
                      exact ⟨by rw [hz.out]; rfl, hE.out⟩
end Go.Proofs.Ytcnmljpabmgieaa.R
