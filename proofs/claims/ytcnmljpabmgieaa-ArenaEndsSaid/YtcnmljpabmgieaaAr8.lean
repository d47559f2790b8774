/- Check. -/
import Derived.Test.YtcnmljpabmgieaaAr1
import Derived.Deep.DeepCutAuto
import Derived.WalkKit
import Derived.WalkSpells
import Derived.WalkLawsBesides
import Derived.Deep.QuietTactic
import Derived.BigQuiet
import Derived.BigRegion
import Derived.Lib.Hide
import Derived.Deep.RegionWith
set_option linter.unusedSimpArgs false
set_option linter.unusedVariables false
namespace Go.Proofs.Ytcnmljpabmgieaa.R
open Go.RowKit
theorem all_snoc (l : List Int) (p : Int → Bool) (k : Nat) (x : Int) (hx : l[k]? = some x) : (l.take (k + 1)).all p = ((l.take k).all p && p x) := by
  rw [List.take_add_one, hx, List.all_append]
  simp
theorem all_bad (l : List Int) (p : Int → Bool) (k : Nat) (x : Int) (hx : l[k]? = some x) (h : p x = false) : l.all p = false := by
  rw [List.all_eq_false]
  exact ⟨x, List.mem_of_getElem? hx, by simp [h]⟩
theorem left_ok (l : List Int) (x : Int) (la : Option Addr) (lc Bx : Nat) (W : World) (hl : l.length ≤ 1000000) (h : RepI W la l) (b1 : W.cell? ⟨Bx, 1, none⟩ = some (.slice la l.length lc)) :
    Calls Try.prog 28 #[.int .i64 x, .pointer (some ⟨Bx, 0, none⟩)] W fun e w' => e = .returned (.bool (has l x)) ∧ w' = W := by
  have hc := Lib.hid (has_ok l x la lc W hl h)
  clear h
  go_enter Try.func28, Try.ntmps28
  go_wp2_with fail
  refine Calls.mono hc.out ?_
  rintro _ _ ⟨rfl, rfl⟩
  go_wp2
  go_ret
  exact ⟨rfl, rfl⟩
set_option maxRecDepth 100000 in
set_option maxHeartbeats 4000000 in
theorem Check_ok (a : Arn) (la ha : Option Addr) (lc hc : Nat) (w : World) (hl : a.Left.length ≤ 1000000) (hl2 : a.Holds.length ≤ 1000000) (h1 : RepI w la a.Left) (h2 : RepI w ha a.Holds) :
    Calls Try.prog 14 #[.agg #[.int .i64 (a).Members, .slice la (a).Left.length lc, .bool (a).Open, .int .i64 (a).Eager, .slice ha (a).Holds.length hc, .bool (a).Swept, .int .i64 (a).Winner, .bool (a).Done]] w fun e w' => e = .returned (.int .i64 (check a)) ∧ Ext w w' := by
  obtain ⟨Z, hZ⟩ : ∃ Z, Z = check a := ⟨_, rfl⟩
  rw [← hZ]
  have hr1 := Lib.hid fun w' (he : Ext w w') => rising_ok a.Left la lc w' hl (h1.ext he)
  have hr2 := Lib.hid fun w' (he : Ext w w') => rising_ok a.Holds ha hc w' hl2 (h2.ext he)
  have hha := Lib.hid fun m w' (he : Ext w w') => has_ok a.Left m la lc w' hl (h1.ext he)
  obtain ⟨n, hn⟩ : ∃ n, n = a.Left.length := ⟨_, rfl⟩
  obtain ⟨nh, hnh⟩ : ∃ n, n = a.Holds.length := ⟨_, rfl⟩
  rw [← hn] at hr1 hl hha ⊢
  rw [← hnh] at hr2 hl2 ⊢
  obtain ⟨r1, hd1⟩ : ∃ b, b = rising a.Left := ⟨_, rfl⟩
  obtain ⟨r2, hd2⟩ : ∃ b, b = rising a.Holds := ⟨_, rfl⟩
  rw [← hd1] at hr1
  rw [← hd2] at hr2
  replace hd1 := Lib.hid hd1
  replace hd2 := Lib.hid hd2
  replace hn := Lib.hid hn
  replace hnh := Lib.hid hnh
  replace hZ := Lib.hid hZ
  replace h1 := Lib.hid h1
  replace h2 := Lib.hid h2
  have hbad : Hid ((decide (a.Members < 0) || decide (24 < a.Members) || !r1 || !r2) = true → Z = 12) := Lib.hid fun h => by rw [hZ.out, check, ← hd1.out, ← hd2.out, if_pos h]
  rcases m1 : decide (a.Members < 0) with _ | _
  rotate_left
  focus
    obtain rfl : Z = 12 := hbad.out (by simp [m1])
    go_enter Try.func14, Try.ntmps14
    go_wp2
    go_ret
    refine ⟨rfl, ?_⟩
    (repeat (first | exact Ext.refl _ | assumption | refine Ext.alloc ?_ _ | refine Ext.ext ?_ _ | refine Ext.drew ?_))
  rcases m2 : decide (24 < a.Members) with _ | _
  rotate_left
  focus
    obtain rfl : Z = 12 := hbad.out (by simp [m2])
    go_enter Try.func14, Try.ntmps14
    go_wp2
    go_ret
    refine ⟨rfl, ?_⟩
    (repeat (first | exact Ext.refl _ | assumption | refine Ext.alloc ?_ _ | refine Ext.ext ?_ _ | refine Ext.drew ?_))
  cases r1
  focus
    obtain rfl : Z = 12 := hbad.out (by simp)
    go_enter Try.func14, Try.ntmps14
    go_wp2_with fail
    refine Calls.mono (hr1.out _ ?_) ?_
    focus (repeat (first | exact Ext.refl _ | assumption | refine Ext.alloc ?_ _ | refine Ext.ext ?_ _ | refine Ext.drew ?_))
    rintro _ _ ⟨rfl, d, rfl⟩
    go_wp2
    go_ret
    refine ⟨rfl, ?_⟩
    (repeat (first | exact Ext.refl _ | assumption | refine Ext.alloc ?_ _ | refine Ext.ext ?_ _ | refine Ext.drew ?_))
  cases r2
  focus
    obtain rfl : Z = 12 := hbad.out (by simp)
    go_enter Try.func14, Try.ntmps14
    go_wp2_with fail
    refine Calls.mono (hr1.out _ ?_) ?_
    focus (repeat (first | exact Ext.refl _ | assumption | refine Ext.alloc ?_ _ | refine Ext.ext ?_ _ | refine Ext.drew ?_))
    rintro _ _ ⟨rfl, d, rfl⟩
    go_wp2_with fail
    refine Calls.mono (hr2.out _ ?_) ?_
    focus (repeat (first | exact Ext.refl _ | assumption | refine Ext.alloc ?_ _ | refine Ext.ext ?_ _ | refine Ext.drew ?_))
    rintro _ _ ⟨rfl, d', rfl⟩
    go_wp2
    go_ret
    refine ⟨rfl, ?_⟩
    (repeat (first | exact Ext.refl _ | assumption | refine Ext.alloc ?_ _ | refine Ext.ext ?_ _ | refine Ext.drew ?_))
  have hZ2 : Hid (Z = if !(a.Left.all (member a)) then 12 else if !(a.Holds.all (has a.Left)) then 12 else if bad a then 12 else 0) := Lib.hid (by rw [hZ.out, check, ← hd1.out, ← hd2.out, m1, m2]; rfl)
  clear hbad hd1 hd2 hZ
  go_enter Try.func14, Try.ntmps14
  go_wp2_with fail
  refine Calls.mono (hr1.out _ ?_) ?_
  focus (repeat (first | exact Ext.refl _ | assumption | refine Ext.alloc ?_ _ | refine Ext.ext ?_ _ | refine Ext.drew ?_))
  rintro _ _ ⟨rfl, d, rfl⟩
  go_wp2_with fail
  refine Calls.mono (hr2.out _ ?_) ?_
  focus (repeat (first | exact Ext.refl _ | assumption | refine Ext.alloc ?_ _ | refine Ext.ext ?_ _ | refine Ext.drew ?_))
  rintro _ _ ⟨rfl, d', rfl⟩
  clear hr1 hr2
  go_upto_region 3 with fail
  refine gen_at5 (p := fun W => Code.wp _ _ _ _ W) ?_
  intro W hW
  have hE : Hid (Ext w W) := Lib.hid (by rw [hW]; (repeat (first | exact Ext.refl _ | assumption | refine Ext.alloc ?_ _ | refine Ext.ext ?_ _ | refine Ext.drew ?_)))
  have hB : W.heap[w.heap.size]? = some (.cells #[.int .i64 a.Members, .slice la n lc, .bool a.Open, .int .i64 a.Eager, .slice ha nh hc, .bool a.Swept, .int .i64 a.Winner, .bool a.Done] 24) := by
    rw [hW]; exact heap_ext1 (heap_ext1 (heap_new _ _ rfl))
  clear hW
  have b0 := heap_cell hB 0
  have b1 := heap_cell hB 1
  have b2 := heap_cell hB 2
  have b3 := heap_cell hB 3
  have b4 := heap_cell hB 4
  have b5 := heap_cell hB 5
  have b6 := heap_cell hB 6
  have b7 := heap_cell hB 7
  simp only [List.getElem?_toArray, List.getElem?_cons_succ, List.getElem?_cons_zero] at b0 b1 b2 b3 b4 b5 b6 b7
  have hBl : w.heap.size < W.heap.size := (Array.getElem?_eq_some_iff.1 hB).1
  replace h1 := Lib.hid (h1.out.ext hE.out)
  replace h2 := Lib.hid (h2.out.ext hE.out)
  clear hB
  obtain ⟨Bx, hBx⟩ : ∃ B, w.heap.size = B := ⟨_, rfl⟩
  rw [hBx] at b0 b1 b2 b3 b4 b5 b6 b7 hBl ⊢
  clear hBx
  have hlf : Hid (∀ x, Calls Try.prog 28 #[.int .i64 x, .pointer (some ⟨Bx, 0, none⟩)] W fun e w' => e = .returned (.bool (has a.Left x)) ∧ w' = W) := Lib.hid fun x => left_ok a.Left x la lc Bx W (hn.out ▸ hl) h1.out (hn.out ▸ b1)
  clear hha
  go_wp2
  go_loopg [34] n (fun g v34 wr => ∃ k : Nat, v34 = .int .i64 k ∧ k ≤ n ∧ g = n - k ∧ wr = W ∧ Hid ((a.Left.take k).all (member a) = true))
  case atStart => exact ⟨0, rfl, Nat.zero_le _, rfl, rfl, Lib.hid (by simp)⟩
  case round =>
    obtain ⟨k, rfl, hk, hg, hwr, ht⟩ := hrel
    rw [hwr]
    clear hwr wr
    replace hg := Lib.hid hg
    by_cases hlt : k < n
    · obtain ⟨x, hx⟩ : ∃ x, a.Left[k]? = some x := ⟨_, List.getElem?_eq_getElem (hn.out ▸ hlt)⟩
      have hsn := Lib.hid (all_snoc a.Left (member a) k x hx)
      have hba := Lib.hid (all_bad a.Left (member a) k x hx)
      obtain ⟨b, off, rfl, hi⟩ : ∃ b off, la = some ⟨b, off, none⟩ ∧ IntsAt W b off a.Left := by
        rcases h1.out with h | h
        · rw [h] at hx; cases hx
        · exact h
      have c0 := hi k x hx
      have hbl := World.block_lt_of_cell? W ⟨b, off + k, none⟩ c0
      simp only at hbl
      clear hi hx
      rcases p1 : decide (0 ≤ x) with _ | _
      · obtain rfl : Z = 12 := by rw [hZ2.out, hba.out (by simp [member, p1])]; rfl
        go_wp2
        go_ret
        exact ⟨rfl, hE.out⟩
      rcases p2 : decide (x < a.Members) with _ | _
      · obtain rfl : Z = 12 := by rw [hZ2.out, hba.out (by simp [member, p2])]; rfl
        go_wp2
        go_ret
        exact ⟨rfl, hE.out⟩
      go_wp2
      go_roundg (n - (k + 1))
      case measure => have := hg.out; omega
      case rel => exact ⟨k + 1, by go_num, by omega, rfl, rfl, Lib.hid (by rw [hsn.out, ht.out, member, p1, p2]; rfl)⟩
    obtain rfl : k = n := by omega
    have hZ3 : Hid (Z = if !(a.Holds.all (has a.Left)) then 12 else if bad a then 12 else 0) := Lib.hid (by
      have := ht.out
      rw [hn.out, List.take_length] at this
      rw [hZ2.out, this]
      rfl)
    clear hZ2 ht hg hlt hk
    go_wp2
    go_loopg [46] nh (fun g v46 wr => ∃ k : Nat, v46 = .int .i64 k ∧ k ≤ nh ∧ g = nh - k ∧ wr = W ∧ Hid ((a.Holds.take k).all (has a.Left) = true))
    case atStart => exact ⟨0, rfl, Nat.zero_le _, rfl, rfl, Lib.hid (by simp)⟩
    case round =>
      obtain ⟨j, rfl, hk, hg, hwr, ht⟩ := hrel
      rw [hwr]
      clear hwr wr
      replace hg := Lib.hid hg
      by_cases hlt : j < nh
      · obtain ⟨x, hx⟩ : ∃ x, a.Holds[j]? = some x := ⟨_, List.getElem?_eq_getElem (hnh.out ▸ hlt)⟩
        have hsn := Lib.hid (all_snoc a.Holds (has a.Left) j x hx)
        have hba := Lib.hid (all_bad a.Holds (has a.Left) j x hx)
        obtain ⟨b, off, rfl, hi⟩ : ∃ b off, ha = some ⟨b, off, none⟩ ∧ IntsAt W b off a.Holds := by
          rcases h2.out with h | h
          · rw [h] at hx; cases hx
          · exact h
        have c0 := hi j x hx
        have hbl := World.block_lt_of_cell? W ⟨b, off + j, none⟩ c0
        simp only at hbl
        clear hi hx
        rcases p1 : has a.Left x with _ | _
        · obtain rfl : Z = 12 := by rw [hZ3.out, hba.out p1]; rfl
          go_wp2_with fail
          refine Calls.mono (hlf.out x) ?_
          rintro _ wz ⟨rfl, hwz⟩
          rw [hwz]
          clear hwz wz
          rw [p1]
          go_wp2
          go_ret
          exact ⟨rfl, hE.out⟩
        · go_wp2_with fail
          refine Calls.mono (hlf.out x) ?_
          rintro _ wz ⟨rfl, hwz⟩
          rw [hwz]
          clear hwz wz
          rw [p1]
          go_wp2
          go_roundg (nh - (j + 1))
          case measure => have := hg.out; omega
          case rel => exact ⟨j + 1, by go_num, by omega, rfl, rfl, Lib.hid (by rw [hsn.out, ht.out, p1]; rfl)⟩
      obtain rfl : j = nh := by omega
      have hZ4 : Hid (Z = if bad a then 12 else 0) := Lib.hid (by
        have := ht.out
        rw [hnh.out, List.take_length] at this
        rw [hZ3.out, this]
        rfl)
      clear hZ3 ht hg hlt hk
      go_upto_region 18 with fail
      go_cut [0, 55] (fun v0 v1 wc => ∃ c : Bool, v1 = .bool c ∧ Hid (c = (!(a.Eager == -1) && (!has a.Left a.Eager || !a.Open))) ∧ wc = W)
      case first =>
        by_cases e1 : a.Eager = -1
        focus
          go_wp2
          go_meet
          case rel => exact ⟨_, rfl, Lib.hid (by simp [e1]), rfl⟩
        focus
          go_wp2_with fail
          refine Calls.mono (hlf.out a.Eager) ?_
          rintro _ wz ⟨rfl, hwz⟩
          rw [hwz]
          clear hwz wz
          rcases p1 : has a.Left a.Eager with _ | _
          focus
            go_wp2
            go_meet
            case rel => exact ⟨_, rfl, Lib.hid (by simp [e1, p1, bne]), rfl⟩
          focus
            go_wp2
            go_meet
            case rel => exact ⟨_, rfl, Lib.hid (by simp [e1, p1, bne]), rfl⟩
      case rest =>
        obtain ⟨c0, rfl, hc0, hwc⟩ := hcut
        rw [hwc]
        clear hwc wc
        cases c0
        rotate_left
        focus
          obtain rfl : Z = 12 := by
            rw [hZ4.out, if_pos]
            unfold bad
            rw [← hc0.out]
            rfl
          go_wp2
          go_ret
          exact ⟨rfl, hE.out⟩
        go_upto_region 19 with fail
        go_cut [71] (fun v1 wc => ∃ c : Bool, v1 = .bool c ∧ Hid (c = (!(a.Winner == -1) && (!member a a.Winner || !a.Done))) ∧ wc = W)
        case first =>
          by_cases e1 : a.Winner = -1
          focus
            go_wp2
            go_meet
            case rel => exact ⟨_, rfl, Lib.hid (by simp [e1]), rfl⟩
          rcases p1 : decide (0 ≤ a.Winner) with _ | _
          focus
            go_wp2
            go_meet
            case rel => exact ⟨_, rfl, Lib.hid (by simp [e1, member, p1, bne]), rfl⟩
          rcases p2 : decide (a.Winner < a.Members) with _ | _
          focus
            go_wp2
            go_meet
            case rel => exact ⟨_, rfl, Lib.hid (by simp [e1, member, p1, p2, bne]), rfl⟩
          focus
            go_wp2
            go_meet
            case rel => exact ⟨_, rfl, Lib.hid (by simp [e1, member, p1, p2, bne]), rfl⟩
        case rest =>
          obtain ⟨c1, rfl, hc1, hwc⟩ := hcut
          rw [hwc]
          clear hwc wc
          cases c1
          rotate_left
          focus
            obtain rfl : Z = 12 := by
              rw [hZ4.out, if_pos]
              unfold bad
              rw [← hc0.out, ← hc1.out]
              rfl
            go_wp2
            go_ret
            exact ⟨rfl, hE.out⟩
          go_upto_region 20 with fail
          go_cut [87] (fun v1 wc => ∃ c : Bool, v1 = .bool c ∧ Hid (c = (a.Done && (a.Open || a.Swept || decide (0 < a.Left.length) || decide (0 < a.Holds.length)))) ∧ wc = W)
          case first =>
            have nn := hn.out
            have nnh := hnh.out
            cases hD : a.Done
            focus
              rw [hD] at b7
              clear nn nnh
              go_wp2
              go_meet
              case rel => exact ⟨_, rfl, Lib.hid (by simp [hD]), rfl⟩
            rw [hD] at b7
            cases hO : a.Open
            rotate_left
            focus
              rw [hO] at b2
              clear nn nnh
              go_wp2
              go_meet
              case rel => exact ⟨_, rfl, Lib.hid (by simp [hD, hO]), rfl⟩
            rw [hO] at b2
            cases hS : a.Swept
            rotate_left
            focus
              rw [hS] at b5
              clear nn nnh
              go_wp2
              go_meet
              case rel => exact ⟨_, rfl, Lib.hid (by simp [hD, hO, hS]), rfl⟩
            rw [hS] at b5
            by_cases q1 : 0 < k
            focus
              have d1 : decide ((0 : Int) < (k : Int)) = true := decide_eq_true (by omega)
              have d1' : decide (0 < k) = true := decide_eq_true q1
              have f : decide (0 < a.Left.length) = true := decide_eq_true (by omega)
              replace f := Lib.hid f
              clear nn nnh
              go_wp2
              go_meet
              case rel => exact ⟨_, rfl, Lib.hid (by rw [hD, hO, hS, f.out]; rfl), rfl⟩
            by_cases q2 : 0 < j
            focus
              have d1 : decide ((0 : Int) < (k : Int)) = false := decide_eq_false (by omega)
              have d1' : decide (0 < k) = false := decide_eq_false q1
              have d2 : decide ((0 : Int) < (j : Int)) = true := decide_eq_true (by omega)
              have d2' : decide (0 < j) = true := decide_eq_true q2
              have f : decide (0 < a.Left.length) = false := decide_eq_false (by omega)
              have f2 : decide (0 < a.Holds.length) = true := decide_eq_true (by omega)
              replace f := Lib.hid f
              replace f2 := Lib.hid f2
              clear nn nnh
              go_wp2
              go_meet
              case rel => exact ⟨_, rfl, Lib.hid (by rw [hD, hO, hS, f.out, f2.out]; rfl), rfl⟩
            focus
              have d1 : decide ((0 : Int) < (k : Int)) = false := decide_eq_false (by omega)
              have d1' : decide (0 < k) = false := decide_eq_false q1
              have d2 : decide ((0 : Int) < (j : Int)) = false := decide_eq_false (by omega)
              have d2' : decide (0 < j) = false := decide_eq_false q2
              have f : decide (0 < a.Left.length) = false := decide_eq_false (by omega)
              have f2 : decide (0 < a.Holds.length) = false := decide_eq_false (by omega)
              replace f := Lib.hid f
              replace f2 := Lib.hid f2
              clear nn nnh q1 q2
              go_wp2
              go_meet
              case rel => exact ⟨_, rfl, Lib.hid (by rw [hD, hO, hS, f.out, f2.out]; rfl), rfl⟩
          case rest =>
            obtain ⟨c2, rfl, hc2, hwc⟩ := hcut
            rw [hwc]
            clear hwc wc
            cases c2
            rotate_left
            focus
              obtain rfl : Z = 12 := by
                rw [hZ4.out, if_pos]
                unfold bad
                rw [← hc0.out, ← hc1.out, ← hc2.out]
                rfl
              go_wp2
              go_ret
              exact ⟨rfl, hE.out⟩
            go_upto_region 21 with fail
            go_cut [110] (fun v1 wc => ∃ c : Bool, v1 = .bool c ∧ Hid (c = (!a.Open && !a.Done && decide (a.Left.length < 2))) ∧ wc = W)
            case first =>
              have nn := hn.out
              cases hO : a.Open
              rotate_left
              focus
                rw [hO] at b2
                clear nn
                go_wp2
                go_meet
                case rel => exact ⟨_, rfl, Lib.hid (by simp [hO]), rfl⟩
              rw [hO] at b2
              cases hD : a.Done
              rotate_left
              focus
                rw [hD] at b7
                clear nn
                go_wp2
                go_meet
                case rel => exact ⟨_, rfl, Lib.hid (by simp [hO, hD]), rfl⟩
              rw [hD] at b7
              by_cases q1 : k < 2
              focus
                have d1 : decide ((k : Int) < (2 : Int)) = true := decide_eq_true (by omega)
                have d1' : decide (k < 2) = true := decide_eq_true q1
                have f : Hid (decide (a.Left.length < 2) = true) := Lib.hid (decide_eq_true (by omega))
                clear nn
                go_wp2
                go_meet
                case rel => exact ⟨_, rfl, Lib.hid (by rw [hD, hO, f.out]; rfl), rfl⟩
              focus
                have d1 : decide ((k : Int) < (2 : Int)) = false := decide_eq_false (by omega)
                have d1' : decide (k < 2) = false := decide_eq_false q1
                have f : Hid (decide (a.Left.length < 2) = false) := Lib.hid (decide_eq_false (by omega))
                clear nn q1
                go_wp2
                go_meet
                case rel => exact ⟨_, rfl, Lib.hid (by rw [hD, hO, f.out]; rfl), rfl⟩
            case rest =>
              obtain ⟨c3, rfl, hc3, hwc⟩ := hcut
              rw [hwc]
              clear hwc wc
              cases c3
              rotate_left
              focus
                obtain rfl : Z = 12 := by
                  rw [hZ4.out, if_pos]
                  unfold bad
                  rw [← hc0.out, ← hc1.out, ← hc2.out, ← hc3.out]
                  rfl
                go_wp2
                go_ret
                exact ⟨rfl, hE.out⟩
              go_upto_region 22 with fail
              go_cut [125] (fun v1 wc => ∃ c : Bool, v1 = .bool c ∧ Hid (c = (a.Swept && (a.Open || decide (a.Holds.length = 0)))) ∧ wc = W)
              case first =>
                have nnh := hnh.out
                cases hS : a.Swept
                focus
                  rw [hS] at b5
                  clear nnh
                  go_wp2
                  go_meet
                  case rel => exact ⟨_, rfl, Lib.hid (by simp [hS]), rfl⟩
                rw [hS] at b5
                cases hO : a.Open
                rotate_left
                focus
                  rw [hO] at b2
                  clear nnh
                  go_wp2
                  go_meet
                  case rel => exact ⟨_, rfl, Lib.hid (by simp [hS, hO]), rfl⟩
                rw [hO] at b2
                by_cases q1 : j = 0
                focus
                  have d1 : ((j : Int) == 0) = true := by simp; omega
                  have f : Hid (decide (a.Holds.length = 0) = true) := Lib.hid (decide_eq_true (by omega))
                  clear nnh q1
                  go_wp2
                  go_meet
                  case rel => exact ⟨_, rfl, Lib.hid (by rw [hS, hO, f.out]; rfl), rfl⟩
                focus
                  have d1 : ((j : Int) == 0) = false := by simp; omega
                  have f : Hid (decide (a.Holds.length = 0) = false) := Lib.hid (decide_eq_false (by omega))
                  clear nnh q1
                  go_wp2
                  go_meet
                  case rel => exact ⟨_, rfl, Lib.hid (by rw [hS, hO, f.out]; rfl), rfl⟩
              case rest =>
                obtain ⟨c4, rfl, hc4, hwc⟩ := hcut
                rw [hwc]
                clear hwc wc
                cases c4
                rotate_left
                focus
                  obtain rfl : Z = 12 := by
                    rw [hZ4.out, if_pos]
                    unfold bad
                    rw [← hc0.out, ← hc1.out, ← hc2.out, ← hc3.out, ← hc4.out]
                    rfl
                  go_wp2
                  go_ret
                  exact ⟨rfl, hE.out⟩
                obtain rfl : Z = 0 := by
                  rw [hZ4.out, if_neg]
                  unfold bad
                  rw [← hc0.out, ← hc1.out, ← hc2.out, ← hc3.out, ← hc4.out]
                  decide
                go_wp2
                go_ret
                exact ⟨rfl, hE.out⟩
end Go.Proofs.Ytcnmljpabmgieaa.R
