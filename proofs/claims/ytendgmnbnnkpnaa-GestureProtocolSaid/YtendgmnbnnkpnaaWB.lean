/- The package of draws: Pointers, the walk. -/
import Derived.Test.YtendgmnbnnkpnaaWA
import Derived.Deep.DeepCutAuto
import Derived.WalkKit
import Derived.WalkSpells
import Derived.WalkLawsBesides
import Derived.Deep.QuietTactic
import Derived.BigQuiet
import Derived.BigRegion
import Derived.Lib.Hide
import Derived.Deep.RegionWith
set_option linter.unusedSimpArgs false
set_option linter.unusedVariables false
namespace Go
theorem wp_block_then {P : Program} {s : Code} {K : Act → World → Prop} {Q' : Exit → Act → World → Prop} {b : Nat} {a : Act} {w : World} (h : s.wp P (Exit.then K (Exit.inBlock b (Exit.then K Q'))) a w) : s.wp P (Exit.inBlock b (Exit.then K Q')) a w := by
  refine wp_mono h ?_
  intro e a w hq
  cases e <;> exact hq
end Go
namespace Go.Proofs.Ytendgmnbnnkpnaa.G
open Go.RowKit
set_option maxRecDepth 100000 in
set_option maxHeartbeats 4000000 in
theorem src_Pointers (w : World) (S n at_ : Nat) (h : SrcAt w S n at_) (m : Nat) (hm : m ≤ 100) :
    Calls Try.prog 19 #[.pointer (some ⟨S, 0, none⟩), .int .i64 m] w fun x w' => ∃ v l, x = .returned v ∧ St w S n w' v l ∧ l.length ≤ m := by
  have st : Hid (St w S n w (.slice none 0 0) []) := Lib.hid ⟨by
    have h' := h
    obtain ⟨⟨a, cap, hS, _⟩, hle, hn⟩ := h
    exact (drawn_none hle (setCell_same (w := w) (S := S) (i := 1) (v := .int .i64 at_) hS rfl) (d := w.grow0)).low |> fun q => by rw [World.ext_none] at q; exact q, World.ownsRow_nil _ _ _ _, h.lt⟩
  have hs := Lib.hid h
  have ss := hs
  clear h
  go_enter Try.func19, Try.ntmps19
  go_wp2_with fail; refine Calls.mono (src_N _ S n _ ss.out 3 (by omega)) ?_; rintro _ wd ⟨x1, rfl, -, -, hd⟩; replace st := Lib.hid (St.draw st.out hd); clear ss; obtain ⟨ad, ss⟩ := St.src st.out hs.out; replace ss := Lib.hid ss; clear hd
  go_wp2_with fail; refine Calls.mono (src_Range _ S n _ ss.out (-5) 60 (by omega) (by omega) (by omega)) ?_; rintro _ wd ⟨x2, rfl, -, -, hd⟩; replace st := Lib.hid (St.draw st.out hd); clear ss; obtain ⟨ad, ss⟩ := St.src st.out hs.out; replace ss := Lib.hid ss; clear hd
  go_wp2_with fail; refine Calls.mono (src_Range _ S n _ ss.out (-5) 60 (by omega) (by omega) (by omega)) ?_; rintro _ wd ⟨x3, rfl, -, -, hd⟩; replace st := Lib.hid (St.draw st.out hd); clear ss; obtain ⟨ad, ss⟩ := St.src st.out hs.out; replace ss := Lib.hid ss; clear hd
  go_wp2
  go_loopg [5, 6, 7, 8] m (fun k v5 v6 v7 v8 wr => ∃ (a : Option Addr) (c : Nat) (l : List Ev) (t x y : Int), v5 = .slice a l.length c ∧ v6 = .int .i64 t ∧ v7 = .int .i64 x ∧ v8 = .int .i64 y ∧ l.length ≤ m ∧ k = m - l.length ∧ Hid (St w S n wr (.slice a l.length c) l))
  case atStart => exact ⟨none, 0, [], _, _, _, rfl, rfl, rfl, rfl, Nat.zero_le _, rfl, st⟩
  case round =>
    clear st ss
    obtain ⟨a, c, l, t, x, y, rfl, rfl, rfl, rfl, hle, hk, st⟩ := hrel
    obtain ⟨ad, ss⟩ := St.src st.out hs.out
    replace ss := Lib.hid ss
    by_cases hlt : l.length < m
    · replace hk := Lib.hid hk
      have hbd : l.length + 3 ≤ 1000 := by omega
      go_wp2_with fail
      refine Calls.mono (src_N _ S n _ (ss.out.ext (by (repeat (first | exact Ext.refl _ | assumption | refine Ext.alloc ?_ _ | refine Ext.ext ?_ _ | refine Ext.drew ?_)))) 11 (by omega)) ?_
      rintro _ wd ⟨z1, rfl, hz, -, hd⟩
      obtain ⟨B, hB⟩ : ∃ B, wr.heap.size = B := ⟨_, rfl⟩
      obtain ⟨hz1, hz2⟩ := hz (by omega)
      obtain ⟨q, hq⟩ : ∃ q : Nat, z1 = q := ⟨z1.toNat, by omega⟩
      subst hq
      have hBS : B ≠ S := by have := ss.out.lt; omega
      obtain ⟨z, hzc⟩ : ∃ z, wd.cell? ⟨B, q, none⟩ = some (.int .i64 z) := by
        have h1 := (drawn_block (b := wr.heap.size) hd (by simp) (by omega)).trans (heap_alloc_new _ _)
        rw [hB] at h1
        exact ints_cell [0, 1, 10, 40, 60, 150, 299, 300, 301, 500, 600] h1 rfl (by simp; omega)
      have hBl := World.block_lt_of_cell? wd ⟨B, q, none⟩ hzc
      simp only at hBl
      replace st := Lib.hid (St.draw (st.out.ext (by (repeat (first | exact Ext.refl _ | assumption | refine Ext.alloc ?_ _ | refine Ext.ext ?_ _ | refine Ext.drew ?_)))) hd)
      clear ss hd
      obtain ⟨ad, ss⟩ := St.src st.out hs.out
      replace ss := Lib.hid ss
      have hq11 : q < 11 := by omega
      rw [hB]
      clear hB hz hz1 hz2
      go_wp2_with fail; refine Calls.mono (src_Range _ S n _ ss.out 1 6 (by omega) (by omega) (by omega)) ?_; rintro _ wd ⟨x1, rfl, -, -, hd⟩; replace st := Lib.hid (St.draw st.out hd); clear ss; obtain ⟨ad, ss⟩ := St.src st.out hs.out; replace ss := Lib.hid ss; clear hd
      go_wp2_with fail; refine Calls.mono (src_Range _ S n _ ss.out 1 2 (by omega) (by omega) (by omega)) ?_; rintro _ wd ⟨x2, rfl, -, -, hd⟩; replace st := Lib.hid (St.draw st.out hd); clear ss; obtain ⟨ad, ss⟩ := St.src st.out hs.out; replace ss := Lib.hid ss; clear hd
      go_wp2_with fail; refine Calls.mono (src_Range _ S n _ ss.out (-20) 20 (by omega) (by omega) (by omega)) ?_; rintro _ wd ⟨x3, rfl, -, -, hd⟩; replace st := Lib.hid (St.draw st.out hd); clear ss; obtain ⟨ad, ss⟩ := St.src st.out hs.out; replace ss := Lib.hid ss; clear hd
      go_wp2_with fail
      refine Calls.mono (src_N _ S n _ (ss.out.ext (by (repeat (first | exact Ext.refl _ | assumption | refine Ext.alloc ?_ _ | refine Ext.ext ?_ _ | refine Ext.drew ?_)))) 6 (by omega)) ?_
      rintro _ we ⟨x4, rfl, hx4, -, hd⟩
      obtain ⟨x41, x42⟩ := hx4 (by omega)
      replace st : Hid (StE w S n we (.slice a l.length c) l wd.heap.size) := Lib.hid ((StE.new st.out ⟨x1, x2, 0, 0, _, x3⟩).draw hd)
      clear ss hd hx4
      obtain ⟨ae, ss⟩ := StE.src st.out hs.out
      replace ss := Lib.hid ss
      obtain ⟨E, hE⟩ : ∃ E, wd.heap.size = E := ⟨_, rfl⟩
      rw [hE] at st ⊢
      clear hE
      go_upto_if 41 with fail
      refine wp_block_then ?_
      go_cut [7, 8] (fun v7 v8 wc => ∃ x y : Int, v7 = .int .i64 x ∧ v8 = .int .i64 y ∧ Hid (StE w S n wc (.slice a l.length c) l E))
      case first =>
        rcases (show x4 = 0 ∨ x4 = 1 ∨ x4 = 2 ∨ x4 = 3 ∨ 3 < x4 by omega) with rfl | rfl | rfl | rfl | hx
        focus
          go_wp2_with fail; refine Calls.mono (src_Range _ S n _ ss.out (-5) 60 (by omega) (by omega) (by omega)) ?_; rintro _ wd ⟨x5, rfl, -, -, hd⟩; replace st := Lib.hid (StE.draw st.out hd); clear ss; obtain ⟨ad, ss⟩ := StE.src st.out hs.out; replace ss := Lib.hid ss; clear hd
          go_wp2_with fail; refine Calls.mono (src_Range _ S n _ ss.out (-5) 60 (by omega) (by omega) (by omega)) ?_; rintro _ wd ⟨x6, rfl, -, -, hd⟩; replace st := Lib.hid (StE.draw st.out hd); clear ss; obtain ⟨ad, ss⟩ := StE.src st.out hs.out; replace ss := Lib.hid ss; clear hd
          go_wp2
          go_meet
          case rel => exact ⟨_, _, rfl, rfl, st⟩
        focus
          go_wp2_with fail; refine Calls.mono (src_Range _ S n _ ss.out (-9) 9 (by omega) (by omega) (by omega)) ?_; rintro _ wd ⟨x5, rfl, -, -, hd⟩; replace st := Lib.hid (StE.draw st.out hd); clear ss; obtain ⟨ad, ss⟩ := StE.src st.out hs.out; replace ss := Lib.hid ss; clear hd
          go_wp2
          go_meet
          case rel => exact ⟨_, _, rfl, rfl, st⟩
        focus
          go_wp2_with fail; refine Calls.mono (src_Range _ S n _ ss.out (-9) 9 (by omega) (by omega) (by omega)) ?_; rintro _ wd ⟨x5, rfl, -, -, hd⟩; replace st := Lib.hid (StE.draw st.out hd); clear ss; obtain ⟨ad, ss⟩ := StE.src st.out hs.out; replace ss := Lib.hid ss; clear hd
          go_wp2
          go_meet
          case rel => exact ⟨_, _, rfl, rfl, st⟩
        focus
          go_wp2_with fail; refine Calls.mono (src_Range _ S n _ ss.out (-40) 40 (by omega) (by omega) (by omega)) ?_; rintro _ wd ⟨x5, rfl, -, -, hd⟩; replace st := Lib.hid (StE.draw st.out hd); clear ss; obtain ⟨ad, ss⟩ := StE.src st.out hs.out; replace ss := Lib.hid ss; clear hd
          go_wp2_with fail; refine Calls.mono (src_Range _ S n _ ss.out (-40) 40 (by omega) (by omega) (by omega)) ?_; rintro _ wd ⟨x6, rfl, -, -, hd⟩; replace st := Lib.hid (StE.draw st.out hd); clear ss; obtain ⟨ad, ss⟩ := StE.src st.out hs.out; replace ss := Lib.hid ss; clear hd
          go_wp2
          go_meet
          case rel => exact ⟨_, _, rfl, rfl, st⟩
        focus
          have e0 : (x4 == 0) = false := by simp; omega
          have e1 : (x4 == 1) = false := by simp; omega
          have e2 : (x4 == 2) = false := by simp; omega
          have e3 : (x4 == 3) = false := by simp; omega
          go_wp2
          go_meet
          case rel => exact ⟨_, _, rfl, rfl, st⟩
      case rest =>
        clear st ss x41 x42
        obtain ⟨x, y, rfl, rfl, st⟩ := hcut
        obtain ⟨ae, ss⟩ := StE.src st.out hs.out
        replace ss := Lib.hid ss
        go_wp2_with fail; refine Calls.mono (src_N _ S n _ ss.out 2 (by omega)) ?_; rintro _ wd ⟨x5, rfl, -, -, hd⟩; replace st := Lib.hid (StE.draw st.out hd); clear ss; obtain ⟨ad, ss⟩ := StE.src st.out hs.out; replace ss := Lib.hid ss; clear hd
        go_upto_if 71 with fail
        go_cut [] (fun wc => Hid (StE w S n wc (.slice a l.length c) l E))
        case first =>
          rcases hx : (x5 == 0) with _ | _
          focus
            go_wp2
            go_meet
            case rel => exact st
          focus
            go_wp2_with fail
            refine Calls.mono (src_N _ S n _ (ss.out.ext (by (repeat (first | exact Ext.refl _ | assumption | refine Ext.alloc ?_ _ | refine Ext.ext ?_ _ | refine Ext.drew ?_)))) 4 (by omega)) ?_
            rintro _ we ⟨z1, rfl, hz, -, hd⟩
            obtain ⟨B, hB⟩ : ∃ B, wd.heap.size = B := ⟨_, rfl⟩
            obtain ⟨hz1, hz2⟩ := hz (by omega)
            obtain ⟨q, hq⟩ : ∃ q : Nat, z1 = q := ⟨z1.toNat, by omega⟩
            subst hq
            have hBS : B ≠ S := by have := ss.out.lt; omega
            obtain ⟨z, hzc⟩ : ∃ z, we.cell? ⟨B, q, none⟩ = some (.int .i64 z) := by
              have h1 := (drawn_block (b := wd.heap.size) hd (by simp) (by omega)).trans (heap_alloc_new _ _)
              rw [hB] at h1
              exact ints_cell [1, 3, 2, 5] h1 rfl (by simp; omega)
            have hBl := World.block_lt_of_cell? we ⟨B, q, none⟩ hzc
            simp only at hBl
            replace st := Lib.hid (StE.draw (st.out.ext (by (repeat (first | exact Ext.refl _ | assumption | refine Ext.alloc ?_ _ | refine Ext.ext ?_ _ | refine Ext.drew ?_)))) hd)
            clear ss hd hx
            have hq11 : q < 4 := by omega
            rw [hB]
            clear hB hz hz1 hz2
            obtain ⟨e, he⟩ := st.out.e
            have c0 : we.cell? ⟨E, 0, none⟩ = some (.int .i64 e.Kind) := heap_cell he 0
            have c1 : we.cell? ⟨E, 1, none⟩ = some (.int .i64 e.ID) := heap_cell he 1
            have c2 : we.cell? ⟨E, 2, none⟩ = some (.int .i64 e.X) := heap_cell he 2
            have c3 : we.cell? ⟨E, 3, none⟩ = some (.int .i64 e.Y) := heap_cell he 3
            have c4 : we.cell? ⟨E, 4, none⟩ = some (.int .i64 e.Time) := heap_cell he 4
            have c5 : we.cell? ⟨E, 5, none⟩ = some (.int .i64 e.Wheel) := heap_cell he 5
            have cf : ∀ i, we.frozen? ⟨E, i, none⟩ = false := heap_thaw he
            have hEl : E < we.heap.size := (Array.getElem?_eq_some_iff.1 he).1
            replace he := Lib.hid he
            go_wp2
            go_meet
            case rel => exact Lib.hid ((st.out.put 0 _ (by decide)).put 1 _ (by decide))
        case rest =>
          clear st ss
          replace st := hcut
          clear hcut
          obtain ⟨e, he⟩ := st.out.e
          have c0 : wc.cell? ⟨E, 0, none⟩ = some (.int .i64 e.Kind) := heap_cell he 0
          have c1 : wc.cell? ⟨E, 1, none⟩ = some (.int .i64 e.ID) := heap_cell he 1
          have c2 : wc.cell? ⟨E, 2, none⟩ = some (.int .i64 e.X) := heap_cell he 2
          have c3 : wc.cell? ⟨E, 3, none⟩ = some (.int .i64 e.Y) := heap_cell he 3
          have c4 : wc.cell? ⟨E, 4, none⟩ = some (.int .i64 e.Time) := heap_cell he 4
          have c5 : wc.cell? ⟨E, 5, none⟩ = some (.int .i64 e.Wheel) := heap_cell he 5
          have cf : ∀ i, wc.frozen? ⟨E, i, none⟩ = false := heap_thaw he
          have hEl : E < wc.heap.size := (Array.getElem?_eq_some_iff.1 he).1
          replace he := Lib.hid he
          have st2 := Lib.hid ((st.out.put 2 x (by decide)).put 3 y (by decide))
          clear st
          obtain ⟨ae, ss⟩ := StE.src st2.out hs.out
          replace ss := Lib.hid ss
          go_wp2_with fail
          refine Calls.mono (src_Chance _ S n _ ss.out 40 (by omega) (by omega)) ?_
          rintro _ wd ⟨b, rfl, hd⟩
          have st := Lib.hid (StE.draw st2.out hd)
          clear ss hd st2 c0 c1 c2 c3 c4 c5 cf hEl he
          obtain ⟨ad, ss⟩ := StE.src st.out hs.out
          replace ss := Lib.hid ss
          go_upto_if 84 with fail
          go_cut [] (fun wc => Hid (StE w S n wc (.slice a l.length c) l E))
          case first =>
            cases b
            focus
              go_wp2
              go_meet
              case rel => exact st
            go_wp2_with fail
            refine Calls.mono (src_N _ S n _ ss.out 4 (by omega)) ?_
            rintro _ wf ⟨x7, rfl, hx7, -, hd⟩
            obtain ⟨x71, x72⟩ := hx7 (by omega)
            replace st := Lib.hid (StE.draw st.out hd)
            clear ss hd hx7
            obtain ⟨ad, ss⟩ := StE.src st.out hs.out
            replace ss := Lib.hid ss
            rcases (show x7 = 0 ∨ x7 = 1 ∨ x7 = 2 ∨ x7 = 3 by omega) with rfl | rfl | rfl | rfl
            focus
              go_wp2_with fail
              refine Calls.mono (src_Raw _ S n _ ss.out) ?_
              rintro _ we ⟨z, rfl, -, -, hd⟩
              replace st := Lib.hid (StE.draw st.out hd)
              clear ss hd
              obtain ⟨e, he⟩ := st.out.e
              have c0 : we.cell? ⟨E, 0, none⟩ = some (.int .i64 e.Kind) := heap_cell he 0
              have c1 : we.cell? ⟨E, 1, none⟩ = some (.int .i64 e.ID) := heap_cell he 1
              have c2 : we.cell? ⟨E, 2, none⟩ = some (.int .i64 e.X) := heap_cell he 2
              have c3 : we.cell? ⟨E, 3, none⟩ = some (.int .i64 e.Y) := heap_cell he 3
              have c4 : we.cell? ⟨E, 4, none⟩ = some (.int .i64 e.Time) := heap_cell he 4
              have c5 : we.cell? ⟨E, 5, none⟩ = some (.int .i64 e.Wheel) := heap_cell he 5
              have cf : ∀ i, we.frozen? ⟨E, i, none⟩ = false := heap_thaw he
              have hEl : E < we.heap.size := (Array.getElem?_eq_some_iff.1 he).1
              replace he := Lib.hid he
              go_wp2
              go_meet
              case rel => exact Lib.hid (st.out.put 4 _ (by decide))
            focus
              go_wp2_with fail
              refine Calls.mono (src_Raw _ S n _ ss.out) ?_
              rintro _ we ⟨z, rfl, -, -, hd⟩
              replace st := Lib.hid (StE.draw st.out hd)
              clear ss hd
              obtain ⟨e, he⟩ := st.out.e
              have c0 : we.cell? ⟨E, 0, none⟩ = some (.int .i64 e.Kind) := heap_cell he 0
              have c1 : we.cell? ⟨E, 1, none⟩ = some (.int .i64 e.ID) := heap_cell he 1
              have c2 : we.cell? ⟨E, 2, none⟩ = some (.int .i64 e.X) := heap_cell he 2
              have c3 : we.cell? ⟨E, 3, none⟩ = some (.int .i64 e.Y) := heap_cell he 3
              have c4 : we.cell? ⟨E, 4, none⟩ = some (.int .i64 e.Time) := heap_cell he 4
              have c5 : we.cell? ⟨E, 5, none⟩ = some (.int .i64 e.Wheel) := heap_cell he 5
              have cf : ∀ i, we.frozen? ⟨E, i, none⟩ = false := heap_thaw he
              have hEl : E < we.heap.size := (Array.getElem?_eq_some_iff.1 he).1
              replace he := Lib.hid he
              go_wp2
              go_meet
              case rel => exact Lib.hid (st.out.put 2 _ (by decide))
            focus
              go_wp2_with fail
              refine Calls.mono (src_Raw _ S n _ ss.out) ?_
              rintro _ we ⟨z, rfl, -, -, hd⟩
              replace st := Lib.hid (StE.draw st.out hd)
              clear ss hd
              obtain ⟨e, he⟩ := st.out.e
              have c0 : we.cell? ⟨E, 0, none⟩ = some (.int .i64 e.Kind) := heap_cell he 0
              have c1 : we.cell? ⟨E, 1, none⟩ = some (.int .i64 e.ID) := heap_cell he 1
              have c2 : we.cell? ⟨E, 2, none⟩ = some (.int .i64 e.X) := heap_cell he 2
              have c3 : we.cell? ⟨E, 3, none⟩ = some (.int .i64 e.Y) := heap_cell he 3
              have c4 : we.cell? ⟨E, 4, none⟩ = some (.int .i64 e.Time) := heap_cell he 4
              have c5 : we.cell? ⟨E, 5, none⟩ = some (.int .i64 e.Wheel) := heap_cell he 5
              have cf : ∀ i, we.frozen? ⟨E, i, none⟩ = false := heap_thaw he
              have hEl : E < we.heap.size := (Array.getElem?_eq_some_iff.1 he).1
              replace he := Lib.hid he
              go_wp2
              go_meet
              case rel => exact Lib.hid (st.out.put 1 _ (by decide))
            focus
              go_wp2_with fail
              refine Calls.mono (src_Raw _ S n _ ss.out) ?_
              rintro _ we ⟨z, rfl, -, -, hd⟩
              replace st := Lib.hid (StE.draw st.out hd)
              clear ss hd
              obtain ⟨e, he⟩ := st.out.e
              have c0 : we.cell? ⟨E, 0, none⟩ = some (.int .i64 e.Kind) := heap_cell he 0
              have c1 : we.cell? ⟨E, 1, none⟩ = some (.int .i64 e.ID) := heap_cell he 1
              have c2 : we.cell? ⟨E, 2, none⟩ = some (.int .i64 e.X) := heap_cell he 2
              have c3 : we.cell? ⟨E, 3, none⟩ = some (.int .i64 e.Y) := heap_cell he 3
              have c4 : we.cell? ⟨E, 4, none⟩ = some (.int .i64 e.Time) := heap_cell he 4
              have c5 : we.cell? ⟨E, 5, none⟩ = some (.int .i64 e.Wheel) := heap_cell he 5
              have cf : ∀ i, we.frozen? ⟨E, i, none⟩ = false := heap_thaw he
              have hEl : E < we.heap.size := (Array.getElem?_eq_some_iff.1 he).1
              replace he := Lib.hid he
              go_wp2
              go_meet
              case rel => exact Lib.hid (st.out.put 0 _ (by decide))
          case rest =>
            clear st ss
            replace st := hcut
            clear hcut
            obtain ⟨e, he⟩ := st.out.e
            have c0 : wc.cell? ⟨E, 0, none⟩ = some (.int .i64 e.Kind) := heap_cell he 0
            have c1 : wc.cell? ⟨E, 1, none⟩ = some (.int .i64 e.ID) := heap_cell he 1
            have c2 : wc.cell? ⟨E, 2, none⟩ = some (.int .i64 e.X) := heap_cell he 2
            have c3 : wc.cell? ⟨E, 3, none⟩ = some (.int .i64 e.Y) := heap_cell he 3
            have c4 : wc.cell? ⟨E, 4, none⟩ = some (.int .i64 e.Time) := heap_cell he 4
            have c5 : wc.cell? ⟨E, 5, none⟩ = some (.int .i64 e.Wheel) := heap_cell he 5
            have cf : ∀ i, wc.frozen? ⟨E, i, none⟩ = false := heap_thaw he
            have hEl : E < wc.heap.size := (Array.getElem?_eq_some_iff.1 he).1
            replace he := Lib.hid he
            obtain ⟨ae, ss⟩ := StE.src st.out hs.out
            replace ss := Lib.hid ss
            go_wp2_with (at_builtin; refine wpList_append_row _ _ _ 39 44 _ 6 48 infoE Try.underlying39 rfl (by decide) w.heap.size _ l.length (l.flatMap evL) (ownsRow_ext st.out.st.row (by (repeat (first | exact Ext.refl _ | assumption | refine Ext.alloc ?_ _ | refine Ext.ext ?_ _ | refine Ext.drew ?_)))) ⟨wc.heap.size, 0, none⟩ 1 1 (evL e) (by decide) rfl (cells_at2 (heap_alloc_new _ _) rfl) (by simp [evL, Value.oneCell']) (by unfold maxLen; omega) (by omega) (Nat.le_trans st.out.st.d.size (by simp)) rfl rfl rfl rfl ?_; intro g c' w2 hown hg; (have he2 := heap_grown2 hg (heap_some_ext he.out (by (repeat (first | exact Ext.refl _ | assumption | refine Ext.alloc ?_ _ | refine Ext.ext ?_ _ | refine Ext.drew ?_)))) (fun k hk => st.out.ne k hk)); (have hES : E ≠ S := by have := st.out.st.s; have := st.out.ge; omega); (have st' := Lib.hid (St.app (e := e) (St.ext st.out.st (by (repeat (first | exact Ext.refl _ | assumption | refine Ext.alloc ?_ _ | refine Ext.ext ?_ _ | refine Ext.drew ?_)))) hown hg)); clear st c0 c1 c2 c3 c4 c5 cf hEl he hown hg ss; replace he2 := Lib.hid he2)
            obtain ⟨ae, ss⟩ := St.src st'.out hs.out
            replace ss := Lib.hid ss
            go_wp2_with fail
            refine Calls.mono (src_N _ S n _ ss.out 3 (by omega)) ?_
            rintro _ w3 ⟨x8, rfl, -, -, hd⟩
            have st := Lib.hid (St.draw st'.out hd)
            have he3 := Lib.hid ((drawn_block hd (Array.getElem?_eq_some_iff.1 he2.out).1 hES).trans he2.out)
            clear ss hd st' he2
            obtain ⟨ad, ss⟩ := St.src st.out hs.out
            replace ss := Lib.hid ss
            rcases hx : (x8 == 0) with _ | _
            focus
              go_wp2
              go_roundg (m - (l.length + 1))
              case measure => have := hk.out; omega
              case rel => exact ⟨_, _, l ++ [e], _, _, _, by rw [List.length_append]; rfl, rfl, rfl, rfl, by simp; omega, by simp, by rw [List.length_append]; exact st⟩
            by_cases hy : l.length + 1 < m
            rotate_left
            focus
              have hy2 : decide (((l.length + 1 : Nat) : Int) < (m : Int)) = false := decide_eq_false (by omega)
              go_wp2
              go_roundg (m - (l.length + 1))
              case measure => have := hk.out; omega
              case rel => exact ⟨_, _, l ++ [e], _, _, _, by rw [List.length_append]; rfl, rfl, rfl, rfl, by simp; omega, by simp, by rw [List.length_append]; exact st⟩
            focus
              have hy2 : decide (((l.length + 1 : Nat) : Int) < (m : Int)) = true := decide_eq_true (by omega)
              go_wp2_with fail
              refine Calls.mono (src_N _ S n _ ss.out 120 (by omega)) ?_
              rintro _ w4 ⟨x9, rfl, -, -, hd⟩
              replace st := Lib.hid (St.draw st.out hd)
              replace he3 := Lib.hid ((drawn_block hd (Array.getElem?_eq_some_iff.1 he3.out).1 hES).trans he3.out)
              clear ss hd
              have c1 : w4.cell? ⟨E, 1, none⟩ = some (.int .i64 e.ID) := heap_cell he3.out 1
              have hEl : E < w4.heap.size := (Array.getElem?_eq_some_iff.1 he3.out).1
              clear he3
              go_wp2_with (at_builtin; refine wpList_append_row _ _ _ 39 44 _ 6 48 infoE Try.underlying39 rfl (by decide) w.heap.size _ (l.length + 1) ((l ++ [e]).flatMap evL) (by have := ownsRow_ext (w' := w4.alloc (.cells (evL ⟨3, e.ID, x, y, wrap64 (wrap64 (t + z) + x9), 0⟩).toArray 44)) st.out.row (by (repeat (first | exact Ext.refl _ | assumption | refine Ext.alloc ?_ _ | refine Ext.ext ?_ _ | refine Ext.drew ?_))); rw [List.length_append] at this; exact this) ⟨w4.heap.size, 0, none⟩ 1 1 (evL ⟨3, e.ID, x, y, wrap64 (wrap64 (t + z) + x9), 0⟩) (by decide) rfl (cells_at2 (heap_alloc_new _ _) rfl) (by simp [evL, Value.oneCell']) (by unfold maxLen; omega) (by omega) (Nat.le_trans st.out.d.size (by simp)) rfl rfl rfl rfl ?_; intro g2 c2 w5 hown hg; (have st' := Lib.hid (St.app (e := ⟨3, e.ID, x, y, wrap64 (wrap64 (t + z) + x9), 0⟩) (St.ext st.out (by (repeat (first | exact Ext.refl _ | assumption | refine Ext.alloc ?_ _ | refine Ext.ext ?_ _ | refine Ext.drew ?_)))) (by rw [List.length_append]; exact hown) hg)); clear st c1 hEl hown hg)
              go_roundg (m - (l.length + 2))
              case measure => have := hk.out; omega
              case rel => exact ⟨_, _, l ++ [e] ++ [⟨3, e.ID, x, y, wrap64 (wrap64 (t + z) + x9), 0⟩], _, _, _, by rw [List.length_append, List.length_append]; rfl, rfl, rfl, rfl, by simp; omega, by simp, by rw [List.length_append, List.length_append]; exact st'⟩
    · go_wp2
      go_ret
      exact ⟨_, _, rfl, st.out, hle⟩
end Go.Proofs.Ytendgmnbnnkpnaa.G
