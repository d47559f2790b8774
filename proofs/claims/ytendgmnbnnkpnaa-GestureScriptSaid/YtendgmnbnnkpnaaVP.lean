/- The reference: Equal, of a recogniser and itself. -/
import Derived.Test.YtendgmnbnnkpnaaUS
import Derived.WalkKit
import Derived.WalkSpells
import Derived.WalkLawsBesides
import Derived.Deep.QuietTactic
import Derived.BigQuiet
import Derived.BigRegion
import Derived.Lib.Hide
import Derived.Deep.RegionWith
set_option linter.unusedSimpArgs false
set_option linter.unusedVariables false
namespace Go.Proofs.Ytendgmnbnnkpnaa.G
open Go.RowKit
theorem gen_at' {W : World} {p : World → Prop} (h : ∀ W', W' = W → p W') : p W := h W rfl
set_option maxRecDepth 100000 in
set_option maxHeartbeats 4000000 in
theorem r_equal (r : Rec) (h : ROk r) (a a' : Option Addr) (c c' : Nat) (w : World) (hr : RepT w a r.Ts) (hr' : RepT w a' r.Ts) :
    Calls Try.prog 15 #[.agg #[.int .i64 (r).Kind, .int .i64 (r).Node, .int .i64 (r).State, .int .i64 (r).Count, .slice a (r).Ts.length c, .int .i64 (r).L.X, .int .i64 (r).L.Y, .int .i64 (r).L.T], .agg #[.int .i64 (r).Kind, .int .i64 (r).Node, .int .i64 (r).State, .int .i64 (r).Count, .slice a' (r).Ts.length c', .int .i64 (r).L.X, .int .i64 (r).L.Y, .int .i64 (r).L.T]] w fun e w' => e = .returned (.bool true) ∧ Ext w w' := by
  by_cases hne : r.Ts = []
  · have hl : r.Ts.length = 0 := by rw [hne]; rfl
    rw [hl]
    clear hr hr' h hne hl
    go_enter Try.func15, Try.ntmps15
    go_wp2
    refine wp_loop_rounds 1 ?_
    rw [rounds_succ]
    go_wp2
    go_ret
    refine ⟨rfl, ?_⟩
    (repeat (first | exact Ext.refl _ | assumption | refine Ext.alloc ?_ _ | refine Ext.ext ?_ _ | refine Ext.drew ?_))
  rcases hr with hr | ⟨b, off, rfl, hr⟩
  · exact absurd hr hne
  rcases hr' with hr' | ⟨b', off', rfl, hr'⟩
  · exact absurd hr' hne
  have hts := Lib.hid h.ts
  have hm : r.Ts.length ≤ 2 := by have := h.len; have := room_le r.Kind; omega
  obtain ⟨ts, hdt⟩ : ∃ ts, ts = r.Ts := ⟨_, rfl⟩
  rw [← hdt] at hr hr' hts hm
  have hb : b < w.heap.size := by
    rcases hs : r.Ts with _ | ⟨t, l⟩
    · exact absurd hs hne
    · obtain ⟨_, _, _, hh⟩ := hr 0 t (by rw [hdt, hs]; rfl)
      exact hh.lt
  have hb' : b' < w.heap.size := by
    rcases hs : r.Ts with _ | ⟨t, l⟩
    · exact absurd hs hne
    · obtain ⟨_, _, _, hh⟩ := hr' 0 t (by rw [hdt, hs]; rfl)
      exact hh.lt
  simp only [← hdt]
  obtain ⟨n, hn⟩ : ∃ n, n = ts.length := ⟨_, rfl⟩
  rw [← hn] at hm ⊢
  replace hn := Lib.hid hn
  replace hr := Lib.hid hr
  replace hr' := Lib.hid hr'
  clear hne hdt h
  go_enter Try.func15, Try.ntmps15
  go_wp2
  go_loopw [5, 6, 7, 8] (fun i _ _ _ wr => ∃ k : Nat, k ≤ n ∧ i = .int .i64 k ∧ Ext ((w.alloc (.cells #[.int .i64 r.Kind, .int .i64 r.Node, .int .i64 r.State, .int .i64 r.Count, .slice (some ⟨b, off, none⟩) n c, .int .i64 r.L.X, .int .i64 r.L.Y, .int .i64 r.L.T] 26)).alloc (.cells #[.int .i64 r.Kind, .int .i64 r.Node, .int .i64 r.State, .int .i64 r.Count, .slice (some ⟨b', off', none⟩) n c', .int .i64 r.L.X, .int .i64 r.L.Y, .int .i64 r.L.T] 26)) wr) (fun i _ _ _ _ => n - (intOf i).toNat)
  case atStart => exact ⟨0, Nat.zero_le _, rfl, Ext.refl _⟩
  case round =>
    obtain ⟨k, hk, rfl, ⟨d, rfl⟩⟩ := hrel
    by_cases hlt : k < n
    · obtain ⟨t, ht⟩ : ∃ t, ts[k]? = some t := ⟨_, List.getElem?_eq_getElem (hn.out ▸ hlt)⟩
      have h1 := hts.out t (List.mem_of_getElem? ht)
      obtain ⟨sb, so, sc, hm1⟩ := hr.out k t ht
      obtain ⟨ub, uo, uc, hm2⟩ := hr'.out k t ht
      have hss := Lib.hid fun w' (he : Ext w w') => hm1.ss.ext he
      have hus := Lib.hid fun w' (he : Ext w w') => hm2.ss.ext he
      obtain ⟨p0, p1, p2, p3, p4, _⟩ := hm1
      obtain ⟨q0, q1, q2, q3, q4, _⟩ := hm2
      have hlen := h1.len
      have hpos : 0 < t.S.length := List.length_pos_iff.2 h1.ne
      clear ht h1
      go_wp2
      go_region
      all_goals
        go_wp2
        refine gen_at' (p := fun W => Code.wp _ _ _ _ W) ?_
        intro WW hW
        have hE : Ext ((w.alloc (.cells #[.int .i64 r.Kind, .int .i64 r.Node, .int .i64 r.State, .int .i64 r.Count, .slice (some ⟨b, off, none⟩) n c, .int .i64 r.L.X, .int .i64 r.L.Y, .int .i64 r.L.T] 26)).alloc (.cells #[.int .i64 r.Kind, .int .i64 r.Node, .int .i64 r.State, .int .i64 r.Count, .slice (some ⟨b', off', none⟩) n c', .int .i64 r.L.X, .int .i64 r.L.Y, .int .i64 r.L.T] 26)) WW := by
          rw [hW]
          show Ext _ _
          (repeat (first | exact Ext.refl _ | assumption | refine Ext.alloc ?_ _ | refine Ext.ext ?_ _ | refine Ext.drew ?_))
        have hE0 : Ext w WW := (show Ext w ((w.alloc (.cells #[.int .i64 r.Kind, .int .i64 r.Node, .int .i64 r.State, .int .i64 r.Count, .slice (some ⟨b, off, none⟩) n c, .int .i64 r.L.X, .int .i64 r.L.Y, .int .i64 r.L.T] 26)).alloc (.cells #[.int .i64 r.Kind, .int .i64 r.Node, .int .i64 r.State, .int .i64 r.Count, .slice (some ⟨b', off', none⟩) n c', .int .i64 r.L.X, .int .i64 r.L.Y, .int .i64 r.L.T] 26)) by (repeat (first | exact Ext.refl _ | assumption | refine Ext.alloc ?_ _ | refine Ext.ext ?_ _ | refine Ext.drew ?_))).trans hE
        have hx : WW.cell? ⟨w.heap.size + 1 + 1 + d.size, 4, none⟩ = some (.slice (some ⟨sb, so, none⟩) t.S.length sc) ∧ WW.cell? ⟨w.heap.size + 1 + 1 + d.size + 1, 4, none⟩ = some (.slice (some ⟨ub, uo, none⟩) t.S.length uc) ∨ WW.cell? ⟨w.heap.size + 1 + 1 + d.size, 4, none⟩ = some (.slice (some ⟨ub, uo, none⟩) t.S.length uc) ∧ WW.cell? ⟨w.heap.size + 1 + 1 + d.size + 1, 4, none⟩ = some (.slice (some ⟨sb, so, none⟩) t.S.length sc) := by
          rw [hW]
          first | (left; constructor <;> go_simp; done) | (right; constructor <;> go_simp; done)
        have hz : w.heap.size + 1 + 1 + d.size + 1 < WW.heap.size := by rw [hW]; simp
        have hz1 : w.heap.size + 1 + 1 + d.size < WW.heap.size := by omega
        have hss2 := hss.out WW hE0
        have hus2 := hus.out WW hE0
        have hlt1 := hss2.lt hpos
        have hlt2 := hus2.lt hpos
        replace hss2 := Lib.hid hss2
        replace hus2 := Lib.hid hus2
        clear hW
        rcases hx with ⟨hA, hB⟩ | ⟨hA, hB⟩
        all_goals
         go_wp2
         go_loopw [8] (fun i wr => ∃ j : Nat, j ≤ t.S.length ∧ i = .int .i64 j ∧ Ext WW wr) (fun i _ => t.S.length - (intOf i).toNat)
         case atStart => exact ⟨0, Nat.zero_le _, rfl, Ext.refl _⟩
         case round =>
           obtain ⟨j, hj, rfl, ⟨d2, rfl⟩⟩ := hrel
           by_cases hjl : j < t.S.length
           · obtain ⟨x0, x1, x2⟩ := hss2.out j hjl
             obtain ⟨y0, y1, y2⟩ := hus2.out j hjl
             generalize nth t.S j = s at *
             go_wp2
             (refine wp_region_ext (by kernel_rfl) (by kernel_rfl) ?_; (repeat (go_big_quiet_step ((fail)))); refine wpQuiet_nil ?_; intro _ hwq; obtain ⟨dq, hwq⟩ := hwq; subst hwq)
             go_wp2
             go_roundw
             case rel => exact ⟨j + 1, by omega, by go_num, by (repeat (first | exact Ext.refl _ | assumption | refine Ext.alloc ?_ _ | refine Ext.ext ?_ _ | refine Ext.drew ?_))⟩
             case measure => simp [intOf]; omega
           · obtain rfl : j = t.S.length := by omega
             go_wp2
             exact ⟨⟨k + 1, by omega, by go_num, hE.trans (by (repeat (first | exact Ext.refl _ | assumption | refine Ext.alloc ?_ _ | refine Ext.ext ?_ _ | refine Ext.drew ?_)))⟩, by simp [intOf]; omega⟩
    · obtain rfl : k = n := by omega
      go_wp2
      go_ret
      refine ⟨rfl, ?_⟩
      (repeat (first | exact Ext.refl _ | assumption | refine Ext.alloc ?_ _ | refine Ext.ext ?_ _ | refine Ext.drew ?_))
end Go.Proofs.Ytendgmnbnnkpnaa.G
