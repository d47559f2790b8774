/- The protocol: the walk. -/
import Derived.Test.YtendgmnbnnkpnaaWE
import Derived.Test.YtendgmnbnnkpnaaWB
import Derived.Test.YtendgmnbnnkpnaaVQ
import Derived.Test.YtendgmnbnnkpnaaUP
import Derived.Deep.DeepCutAuto
import Derived.WalkKit
import Derived.WalkSpells
import Derived.WalkLawsBesides
import Derived.Deep.QuietTactic
import Derived.BigQuiet
import Derived.BigRegion
import Derived.Lib.Hide
import Derived.Deep.RegionWith
set_option linter.unusedSimpArgs false
set_option linter.unusedVariables false
namespace Go.Proofs.Ytendgmnbnnkpnaa.G
open Go.RowKit

set_option maxRecDepth 100000 in
set_option maxHeartbeats 4000000 in
theorem protocol_law (a : Option Addr) (n cap : Nat) (w : World) (hc : n ≤ cap) (hm : cap ≤ 9223372036854775807) (hl : n = 0 ∨ ∃ b off, a = some ⟨b, off, none⟩ ∧ ∀ i, i < n → ∃ x : Int, -9223372036854775808 ≤ x ∧ x ≤ 9223372036854775807 ∧ w.cell? ⟨b, off + i, none⟩ = some (.int .i64 x)) :
    Calls Try.prog 4 #[.slice a n cap] w fun e w' => e = .returned (.bool true) ∧ Ext w w' := by
  have hnew := Lib.hid (src_New w a n cap hc hm hl)
  clear hl hc hm
  go_enter Try.func4, Try.ntmps4
  go_wp2_with fail
  refine Calls.mono hnew.out ?_
  rintro _ w1 ⟨S, n', rfl, hE, hS, hs⟩
  replace hE := Lib.hid hE
  replace hs := Lib.hid hs
  replace hS := Lib.hid hS
  clear hnew
  go_wp2_with fail
  refine Calls.mono (src_Range _ S n' _ hs.out 1 8 (by omega) (by omega) (by omega)) ?_
  rintro _ w2 ⟨k, rfl, hk1, hk8, hd⟩
  replace hE := Lib.hid (drawn_ext hE.out hS.out hd)
  obtain ⟨at1, hs1⟩ := hd.src hs.out
  clear hs hd
  replace hs := Lib.hid hs1
  clear hs1
  have hkb : btw k 1 8 = true := by simp [btw]; omega
  have hsd := newR_sound (k := k) (n := 7) hkb rfl
  replace hsd := Lib.hid hsd
  go_wp2_with fail
  refine (New_ok k 7 _ hkb rfl).mono ?_
  rintro _ _ ⟨rfl, d1, rfl⟩
  go_wp2_with fail
  refine gen_at3 (p := fun W => Calls _ _ _ W _) ?_
  intro W hW
  have hsW : Hid (∃ at_, SrcAt W S n' at_) := Lib.hid ⟨_, hs.out.ext (by rw [hW]; (repeat (first | exact Ext.refl _ | assumption | refine Ext.alloc ?_ _ | refine Ext.ext ?_ _ | refine Ext.drew ?_)))⟩
  obtain ⟨at2, hsW⟩ := hsW.out
  refine Calls.mono (src_Pointers W S n' at2 hsW 24 (by omega)) ?_
  rintro _ w3 ⟨v, l, rfl, hp, hl24⟩
  obtain ⟨R, hR⟩ : ∃ R, w2.heap.size + d1.size = R := ⟨_, rfl⟩
  obtain ⟨ea, ec, rfl, ps⟩ := ps_start hE.out hS.out hs.out hR hW hp
  rw [hR]
  have pv := Lib.hid (pinv_start k)
  replace ps := Lib.hid ps
  clear hsW hW hp hs hE hR
  obtain ⟨B0, hB0⟩ : ∃ B0, w2.heap.size = B0 := ⟨_, rfl⟩
  rw [hB0] at ps
  clear hB0
  go_wp2
  go_loopg [8, 9, 11] l.length (fun g v8 v9 v11 wr => ∃ (i : Nat) (r : Rec) (c0 c1 c2 c3 : Int) (won : Bool) (oa : Option Addr) (oc : Nat) (out : List Ges), v8 = .slice oa out.length oc ∧ v9 = .bool won ∧ v11 = .int .i64 i ∧ i ≤ l.length ∧ g = l.length - i ∧ out.length ≤ 4 * i ∧ Hid (Ps w B0 S n' R (R + 1) ea ec l r c0 c1 c2 c3 (.slice oa out.length oc) out wr) ∧ Hid (Sound r) ∧ Hid (PInv k r c1 c2 c3 won out))
  case atStart => exact ⟨0, newR k 7, 0, 0, 0, 0, false, none, 0, [], rfl, rfl, rfl, Nat.zero_le _, rfl, Nat.zero_le _, ps, hsd, pv⟩
  case round =>
    clear ps pv hsd
    obtain ⟨i, r, c0, c1, c2, c3, won, oa, oc, out, rfl, rfl, rfl, hi, hg, ho, ps, hsd, pv⟩ := hrel
    by_cases hlt : i < l.length
    rotate_left
    focus
      have q1 := pv.out.a1
      have q2 := pv.out.a2
      have q3 := pv.out.a3
      have d1 : decide (1 < c1) = false := decide_eq_false (by omega)
      have d2 : decide (1 < c2) = false := decide_eq_false (by omega)
      have d3 : decide (1 < c3) = false := decide_eq_false (by omega)
      clear q1 q2 q3
      have A0 : wr.cell? ⟨R + 1, 0, none⟩ = some (.int .i64 c0) := heap_cell ps.out.asked 0
      have A1 : wr.cell? ⟨R + 1, 1, none⟩ = some (.int .i64 c1) := heap_cell ps.out.asked 1
      have A2 : wr.cell? ⟨R + 1, 2, none⟩ = some (.int .i64 c2) := heap_cell ps.out.asked 2
      have A3 : wr.cell? ⟨R + 1, 3, none⟩ = some (.int .i64 c3) := heap_cell ps.out.asked 3
      have hAl : R + 1 < wr.heap.size := (Array.getElem?_eq_some_iff.1 ps.out.asked).1
      have hrow := Lib.hid ps.out.out
      have hwh := Lib.hid ps.out.whole
      obtain ⟨N, hN⟩ : ∃ N, N = out.length := ⟨_, rfl⟩
      have ho100 : N ≤ 1000 := by omega
      rw [← hN] at hrow ⊢
      replace hN := Lib.hid hN
      clear ps ho
      go_wp2
      clear A0 A1 A2 A3 hAl d1 d2 d3
      go_loopg [15] N (fun g v15 wz => ∃ j : Nat, v15 = .int .i64 j ∧ j ≤ N ∧ g = N - j ∧ wz = wr)
      case atStart => exact ⟨0, rfl, Nat.zero_le _, rfl, rfl⟩
      case round =>
        obtain ⟨j, rfl, hj, hg2, rfl⟩ := hrel
        replace hg2 := Lib.hid hg2
        by_cases hjl : j < N
        rotate_left
        focus
          go_wp2_with fail
          refine (awake_any _).mono ?_
          rintro _ _ ⟨rfl, da, rfl⟩
          go_wp2
          go_ret
          exact ⟨rfl, hwh.out.ext da⟩
        obtain ⟨g, hgj⟩ : ∃ g, out[j]? = some g := ⟨_, List.getElem?_eq_getElem (by have := hN.out; omega)⟩
        obtain ⟨gb, rfl, G0, G1, G2⟩ := out_cells (by have := hrow.out; rw [hN.out] at this; exact this) hgj
        have hbl := World.block_lt_of_cell? _ ⟨gb, j * 10, none⟩ G0
        simp only at hbl
        obtain ⟨m1, m2⟩ := pv.out.mine g (List.mem_of_getElem? hgj)
        rw [m1] at G0
        rw [m2] at G1
        clear m1 m2
        rcases hck : cont k with _ | _
        focus
          have h1 : N = 1 ∧ g.Phase = 1 ∧ j = 0 := by
            have hl := hN.out
            rcases pv.out.nc hck with h | ⟨_, g', h, hp⟩
            · rw [h] at hgj; cases hgj
            · rw [h] at hgj hl
              simp at hl
              have : j = 0 := by omega
              subst this
              simp at hgj
              subst hgj
              exact ⟨hl, hp, rfl⟩
          obtain ⟨h1, h2, h3⟩ := h1
          rw [h2] at G2
          subst h1 h3
          have hd : decide (4 ≤ k) = false ∨ (decide (4 ≤ k) = true ∧ decide (k ≤ 7) = false) := by
            simp [cont, btw] at hck
            by_cases h4 : 4 ≤ k
            · exact .inr ⟨decide_eq_true h4, decide_eq_false (by omega)⟩
            · exact .inl (decide_eq_false h4)
          clear hck h2
          replace hgj := Lib.hid hgj
          replace hrow := Lib.hid hrow
          rcases hd with hd | ⟨hd1, hd2⟩
          all_goals
            go_wp2
            go_roundg (1 - (0 + 1))
            case measure => have := hg2.out; omega
            case rel => exact ⟨1, by go_num, by omega, rfl, rfl⟩
        focus
          obtain ⟨f1, f2⟩ := pv.out.c4 hck j g hgj
          have hd1 : decide (4 ≤ k) = true := decide_eq_true (by simp [cont, btw] at hck; omega)
          have hd2 : decide (k ≤ 7) = true := decide_eq_true (by simp [cont, btw] at hck; omega)
          obtain ⟨p, hp⟩ : ∃ p, p = g.Phase := ⟨_, rfl⟩
          rw [← hp] at f1 f2 G2
          have hl := hN.out
          clear hck hp
          replace hgj := Lib.hid hgj
          by_cases hj0 : j = 0
          focus
            have hp2 := f1.2 hj0
            subst hj0 hp2
            clear f1 f2 hl
            rcases he : ((0 : Int) == (N : Int) - 1) with _ | _
            all_goals
              go_wp2
              go_roundg (N - (0 + 1))
              case measure => have := hg2.out; omega
              case rel => exact ⟨0 + 1, by go_num, by omega, rfl, rfl⟩
          focus
            have e1 : (p == 2) = false := by simp; exact fun h => hj0 (f1.1 h)
            have e2 : ((j : Int) == 0) = false := by simp; exact hj0
            have e3 : decide ((0 : Int) < (j : Int)) = true := decide_eq_true (by omega)
            have e3' : decide (0 < j) = true := decide_eq_true (by omega)
            by_cases hlast : j + 1 < N
            focus
              have hp3 := f2 (by omega) (by omega)
              subst hp3
              have e4 : ((j : Int) == (N : Int) - 1) = false := by simp; omega
              clear f1 f2 hl
              go_wp2
              go_roundg (N - (j + 1))
              case measure => have := hg2.out; omega
              case rel => exact ⟨j + 1, by go_num, by omega, rfl, rfl⟩
            focus
              have e4 : ((j : Int) == (N : Int) - 1) = true := by simp; omega
              clear f1 f2 hl
              go_wp2
              go_roundg (N - (j + 1))
              case measure => have := hg2.out; omega
              case rel => exact ⟨j + 1, by go_num, by omega, rfl, rfl⟩
    replace hg := Lib.hid hg
    obtain ⟨e, he⟩ : ∃ e, l[i]? = some e := ⟨_, List.getElem?_eq_getElem hlt⟩
    obtain ⟨b, rfl, hev⟩ := ps.out.ev he
    obtain ⟨x0, x1, x2, x3, x4, x5⟩ := hev
    have hbl := World.block_lt_of_cell? wr ⟨b, i * 6, none⟩ x0
    simp only at hbl
    clear he
    obtain ⟨ra, rq, hRh, hts⟩ := ps.out.rc
    have y0 : wr.cell? ⟨R, 0, none⟩ = some (.int .i64 r.Kind) := heap_cell hRh 0
    have y1 : wr.cell? ⟨R, 1, none⟩ = some (.int .i64 r.Node) := heap_cell hRh 1
    have y2 : wr.cell? ⟨R, 2, none⟩ = some (.int .i64 r.State) := heap_cell hRh 2
    have y3 : wr.cell? ⟨R, 3, none⟩ = some (.int .i64 r.Count) := heap_cell hRh 3
    have y4 : wr.cell? ⟨R, 4, none⟩ = some (.slice ra r.Ts.length rq) := heap_cell hRh 4
    have y5 : wr.cell? ⟨R, 5, none⟩ = some (.int .i64 r.L.X) := heap_cell hRh 5
    have y6 : wr.cell? ⟨R, 6, none⟩ = some (.int .i64 r.L.Y) := heap_cell hRh 6
    have y7 : wr.cell? ⟨R, 7, none⟩ = some (.int .i64 r.L.T) := heap_cell hRh 7
    have yf : ∀ i, wr.frozen? ⟨R, i, none⟩ = false := heap_thaw hRh
    have hRl : R < wr.heap.size := (Array.getElem?_eq_some_iff.1 hRh).1
    have hq := fun a c w h' => feed_mk r e hsd.out.ok a c w h'
    have hst := step_feed e hsd.out.ok
    have hsf := hsd.out.feed e
    obtain ⟨q, hqd⟩ : ∃ q, q = feed r e := ⟨_, rfl⟩
    rw [← hqd] at hq hst hsf
    have hpq := pinv_step pv.out hst
    have hqlen := step_len hst
    clear hqd hst
    replace hq := Lib.hid hq
    replace hpq := Lib.hid hpq
    replace hsf := Lib.hid hsf
    replace hts := Lib.hid hts
    replace hRh := Lib.hid hRh
    go_wp2
    (refine wp_region_segs (fun i => if i = 5 then some (FeedF q, FeedS q) else none) [([0, 1, 2, 3, 4], .m, 5), ([6, 7], .m, 10)] [] [8, 9] [11, 12, 13] (by kernel_rfl) (by kernel_rfl) (by simp only [List.map_cons, List.map_nil, List.filterMap_cons, List.filterMap_nil, List.getElem?_toArray, List.getElem?_cons_succ, List.getElem?_cons_zero]; try exact rfl) (by simp only [List.filterMap_cons, List.filterMap_nil, List.getElem?_toArray, List.getElem?_cons_succ, List.getElem?_cons_zero]; try exact rfl) (by simp only [List.filterMap_cons, List.filterMap_nil, List.getElem?_toArray, List.getElem?_cons_succ, List.getElem?_cons_zero]; try exact rfl) (by simp only [List.filterMap_cons, List.filterMap_nil, List.getElem?_toArray, List.getElem?_cons_succ, List.getElem?_cons_zero]; try exact rfl) (by decide) ?_)
    (refine sg_m ?_; (repeat (first | (refine ql_plain rfl rfl ?_; intro K hK; go_big_quiet_op; go_big_quiet_on) | (refine ql_nilCheck rfl rfl rfl ?_; intro K hK; simp only [Act.put, List.setIfInBounds_toArray, List.set_cons_succ, List.set_cons_zero]; go_big_quiet_on) | fail | (refine ql_skip rfl ?_; intro K hK; simp only [Act.put, List.setIfInBounds_toArray, List.set_cons_succ, List.set_cons_zero]; go_big_quiet_on))); refine ql_nil ?_)
    (refine sg_call (f := 20) (FeedF q) (FeedS q) rfl (FeedF.shp q) (FeedF.stable q) (fun d => hq.out _ _ _ (hts.out.ext (by (repeat (first | exact Ext.refl _ | assumption | refine Ext.alloc ?_ _ | refine Ext.ext ?_ _ | refine Ext.drew ?_)))).rep) (by simp only [List.getElem?_toArray, List.getElem?_cons_succ, List.getElem?_cons_zero]; try exact rfl) rfl rfl Try.func20 rfl (by kernel_rfl) rfl ?_; intro u hu hS K hK; obtain ⟨a1, c1', va1, vn1, vc1, rfl⟩ := hS; simp only [Act.put, List.setIfInBounds_toArray, List.set_cons_succ, List.set_cons_zero]; refine hK _ ?_; clear hK K)
    (refine sg_m ?_; (repeat (first | (refine ql_plain rfl rfl ?_; intro K hK; go_big_quiet_op; go_big_quiet_on) | (refine ql_nilCheck rfl rfl rfl ?_; intro K hK; simp only [Act.put, List.setIfInBounds_toArray, List.set_cons_succ, List.set_cons_zero]; go_big_quiet_on) | fail | (refine ql_skip rfl ?_; intro K hK; simp only [Act.put, List.setIfInBounds_toArray, List.set_cons_succ, List.set_cons_zero]; go_big_quiet_on))); refine ql_nil ?_)
    (refine sg_ptr (.cells #[.int .i64 0, .int .i64 0, .int .i64 0, .int .i64 0, .slice none 0 0, .int .i64 0, .int .i64 0, .int .i64 0] 26) rfl (by simp only [List.getElem?_toArray, List.getElem?_cons_succ, List.getElem?_cons_zero]; try exact rfl) rfl rfl (fun d => by go_simp) ?_; intro b1 hb1l hb1n K hK; simp only [Act.put, List.setIfInBounds_toArray, List.set_cons_succ, List.set_cons_zero]; refine hK _ ?_; clear hK K)
    (refine sg_last ?_; (repeat (first | (refine ql_plain rfl rfl ?_; intro K hK; go_big_quiet_op; go_big_quiet_on) | (refine ql_nilCheck rfl rfl rfl ?_; intro K hK; simp only [Act.put, List.setIfInBounds_toArray, List.set_cons_succ, List.set_cons_zero]; go_big_quiet_on) | fail | (refine ql_skip rfl ?_; intro K hK; simp only [Act.put, List.setIfInBounds_toArray, List.set_cons_succ, List.set_cons_zero]; go_big_quiet_on))); refine ql_nil ?_; (repeat (first | (refine pl_plain rfl rfl ?_; intro K hK; go_big_quiet_op; go_big_quiet_on) | (refine pl_nilCheck rfl rfl rfl ?_; intro K hK; simp only [Act.put, List.setIfInBounds_toArray, List.set_cons_succ, List.set_cons_zero]; go_big_quiet_on))); refine pl_nil ?_)
    rintro w1' he1 ⟨⟨_, hf1⟩, hf2⟩
    obtain ⟨x, y, rfl, rfl⟩ := he1.split hf2 hb1l
    have hT1 := Lib.hid (FeedF.use hf1).1
    have hG1 := Lib.hid (FeedF.use hf1).2
    clear hf1 hf2 hb1l hb1n he1
    go_wp2; refine only_normal ?_
    go_upto_region 14 with fail
    have ps2 := Lib.hid (ps.out.ext (w' := ((wr.ext x).alloc (.cells #[.int .i64 (q.1).Kind, .int .i64 (q.1).Node, .int .i64 (q.1).State, .int .i64 (q.1).Count, .slice a1 (q.1).Ts.length c1', .int .i64 (q.1).L.X, .int .i64 (q.1).L.Y, .int .i64 (q.1).L.T] 26)).ext y) (by (repeat (first | exact Ext.refl _ | assumption | refine Ext.alloc ?_ _ | refine Ext.ext ?_ _ | refine Ext.drew ?_))))
    have hX := Lib.hid (show (((wr.ext x).alloc (.cells #[.int .i64 (q.1).Kind, .int .i64 (q.1).Node, .int .i64 (q.1).State, .int .i64 (q.1).Count, .slice a1 (q.1).Ts.length c1', .int .i64 (q.1).L.X, .int .i64 (q.1).L.Y, .int .i64 (q.1).L.T] 26)).ext y).heap[wr.heap.size + x.size]? = some (.cells #[.int .i64 (q.1).Kind, .int .i64 (q.1).Node, .int .i64 (q.1).State, .int .i64 (q.1).Count, .slice a1 (q.1).Ts.length c1', .int .i64 (q.1).L.X, .int .i64 (q.1).L.Y, .int .i64 (q.1).L.T] 26) from heap_at wr x _ (by (repeat (first | exact Ext.refl _ | assumption | refine Ext.alloc ?_ _ | refine Ext.ext ?_ _ | refine Ext.drew ?_))))
    have hT := Lib.hid (TsO.turn hT1.out (w' := ((wr.ext x).alloc (.cells #[.int .i64 (q.1).Kind, .int .i64 (q.1).Node, .int .i64 (q.1).State, .int .i64 (q.1).Count, .slice a1 (q.1).Ts.length c1', .int .i64 (q.1).L.X, .int .i64 (q.1).L.Y, .int .i64 (q.1).L.T] 26)).ext y) (b := (wr.ext x).heap.size) (z := #[.int .i64 0, .int .i64 0, .int .i64 0, .int .i64 0, .slice none 0 0, .int .i64 0, .int .i64 0, .int .i64 0]) (by (repeat (first | exact Like.refl _ _ | refine Like.ext ?_ _ | refine Like.alloc ?_ _ | refine Like.swap ?_ (by simp <;> omega) _ _))) (by (repeat (first | (refine heap_new _ _ ?_; focus (first | with_reducible rfl | (simp only [World.size_ext, World.size_alloc]; done))) | refine heap_ext1 ?_ | refine heap_alloc1 ?_))))
    have hG := Lib.hid (OwnG.turnX hG1.out (w' := ((wr.ext x).alloc (.cells #[.int .i64 (q.1).Kind, .int .i64 (q.1).Node, .int .i64 (q.1).State, .int .i64 (q.1).Count, .slice a1 (q.1).Ts.length c1', .int .i64 (q.1).L.X, .int .i64 (q.1).L.Y, .int .i64 (q.1).L.T] 26)).ext y) (b := (wr.ext x).heap.size) (z := #[.int .i64 0, .int .i64 0, .int .i64 0, .int .i64 0, .slice none 0 0, .int .i64 0, .int .i64 0, .int .i64 0]) (by (repeat (first | exact Like.refl _ _ | refine Like.ext ?_ _ | refine Like.alloc ?_ _ | refine Like.swap ?_ (by simp <;> omega) _ _))) (by (repeat (first | (refine heap_new _ _ ?_; focus (first | with_reducible rfl | (simp only [World.size_ext, World.size_alloc]; done))) | refine heap_ext1 ?_ | refine heap_alloc1 ?_))))
    have hXR : Hid (R + 1 < wr.heap.size + x.size) := Lib.hid (by have := (Array.getElem?_eq_some_iff.1 ps.out.asked).1; omega)
    clear hT1 hG1 ps x0 x1 x2 x3 x4 x5 y0 y1 y2 y3 y4 y5 y6 y7 yf hRl hts hRh hbl
    refine gen_at3 (p := fun W => Code.wp _ _ _ _ W) ?_
    intro W2 hW2
    rw [← hW2] at ps2 hX hT hG
    obtain ⟨X, hXd⟩ : ∃ X, wr.heap.size + x.size = X := ⟨_, rfl⟩
    rw [hXd] at hX hXR ⊢
    clear hW2 hXd
    obtain ⟨ra', rq', hRh, _⟩ := ps2.out.rc
    have y0 : W2.cell? ⟨R, 0, none⟩ = some (.int .i64 r.Kind) := heap_cell hRh 0
    have y1 : W2.cell? ⟨R, 1, none⟩ = some (.int .i64 r.Node) := heap_cell hRh 1
    have y2 : W2.cell? ⟨R, 2, none⟩ = some (.int .i64 r.State) := heap_cell hRh 2
    have y3 : W2.cell? ⟨R, 3, none⟩ = some (.int .i64 r.Count) := heap_cell hRh 3
    have y4 : W2.cell? ⟨R, 4, none⟩ = some (.slice ra' r.Ts.length rq') := heap_cell hRh 4
    have y5 : W2.cell? ⟨R, 5, none⟩ = some (.int .i64 r.L.X) := heap_cell hRh 5
    have y6 : W2.cell? ⟨R, 6, none⟩ = some (.int .i64 r.L.Y) := heap_cell hRh 6
    have y7 : W2.cell? ⟨R, 7, none⟩ = some (.int .i64 r.L.T) := heap_cell hRh 7
    have yf : ∀ i, W2.frozen? ⟨R, i, none⟩ = false := heap_thaw hRh
    have hRl : R < W2.heap.size := (Array.getElem?_eq_some_iff.1 hRh).1
    have z0 : W2.cell? ⟨X, 0, none⟩ = some (.int .i64 q.1.Kind) := heap_cell hX.out 0
    have z1 : W2.cell? ⟨X, 1, none⟩ = some (.int .i64 q.1.Node) := heap_cell hX.out 1
    have z2 : W2.cell? ⟨X, 2, none⟩ = some (.int .i64 q.1.State) := heap_cell hX.out 2
    have z3 : W2.cell? ⟨X, 3, none⟩ = some (.int .i64 q.1.Count) := heap_cell hX.out 3
    have z4 : W2.cell? ⟨X, 4, none⟩ = some (.slice a1 q.1.Ts.length c1') := heap_cell hX.out 4
    have z5 : W2.cell? ⟨X, 5, none⟩ = some (.int .i64 q.1.L.X) := heap_cell hX.out 5
    have z6 : W2.cell? ⟨X, 6, none⟩ = some (.int .i64 q.1.L.Y) := heap_cell hX.out 6
    have z7 : W2.cell? ⟨X, 7, none⟩ = some (.int .i64 q.1.L.T) := heap_cell hX.out 7
    have zf : ∀ i, W2.frozen? ⟨X, i, none⟩ = false := heap_thaw hX.out
    have hXl : X < W2.heap.size := (Array.getElem?_eq_some_iff.1 hX.out).1
    replace hRh := Lib.hid hRh
    go_upto_region 15 with fail
    obtain ⟨pg, ph⟩ := put8 (v0 := .int .i64 q.1.Kind) (v1 := .int .i64 q.1.Node) (v2 := .int .i64 q.1.State) (v3 := .int .i64 q.1.Count) (v4 := .slice a1 q.1.Ts.length c1') (v5 := .int .i64 q.1.L.X) (v6 := .int .i64 q.1.L.Y) (v7 := .int .i64 q.1.L.T) hRh.out
    clear y0 y1 y2 y3 y4 y5 y6 y7 yf hRl
    clear z0 z1 z2 z3 z4 z5 z6 z7 zf hXl
    refine gen_at3 (p := fun W => Code.wp _ _ _ _ W) ?_
    intro W3 hW3
    rw [← hW3] at pg ph
    clear hW3
    have hbR : ∀ b, some R = some b → ∃ cur fr, W2.heap[b]? = some (.cells cur 26 fr) := fun b e => by cases e; exact ⟨_, _, hRh.out⟩
    have hT3 := hT.out.grown pg (by decide) (by decide) hbR
    have hG3 := Lib.hid (hG.out.grown pg (by decide) hbR)
    have ps3 := Lib.hid (ps2.out.mend (q := q.1) pg ps2.out.hR ps2.out.hRA ⟨_, _, hRh.out⟩ ⟨a1, c1', ph, hT3⟩)
    have hX3 := Lib.hid (heap_grown2 pg hX.out (fun k e => by cases e; have := hXR.out; omega))
    clear hbR hT3 pg ph hRh hX hT hG ps2
    obtain ⟨u, ask, gs⟩ := q
    simp only at hpq hsf hG3 ps3 hX3
    have hvn : Hid (vn1 = gs.length) := Lib.hid (OwnG.len hG3.out)
    obtain ⟨hp0, hp3, hpc, hpw, hpv⟩ := hpq.out
    have hgl : gs.length ≤ 2 := hqlen
    replace hpv := Lib.hid hpv
    clear hpq
    have A0 : W3.cell? ⟨R + 1, 0, none⟩ = some (.int .i64 c0) := heap_cell ps3.out.asked 0
    have A1 : W3.cell? ⟨R + 1, 1, none⟩ = some (.int .i64 c1) := heap_cell ps3.out.asked 1
    have A2 : W3.cell? ⟨R + 1, 2, none⟩ = some (.int .i64 c2) := heap_cell ps3.out.asked 2
    have A3 : W3.cell? ⟨R + 1, 3, none⟩ = some (.int .i64 c3) := heap_cell ps3.out.asked 3
    have Af : ∀ i, W3.frozen? ⟨R + 1, i, none⟩ = false := heap_thaw ps3.out.asked
    have hAl : R + 1 < W3.heap.size := (Array.getElem?_eq_some_iff.1 ps3.out.asked).1
    have b1 : decide (ask < 0) = false := decide_eq_false (by omega)
    have b2 : decide (3 < ask) = false := decide_eq_false (by omega)
    go_cut [9, 13, 14, 72] (fun v9 v13 v14 v72 wc => v9 = .bool won ∧ v13 = .int .i64 ask ∧ v14 = .slice va1 vn1 vc1 ∧ v72 = .bool false ∧ wc = W3)
    case first =>
      have hpc2 := Lib.hid hpc
      have hpw2 := Lib.hid hpw
      clear hpc hpw
      by_cases hg0 : gs = []
      focus
        have b4 : decide ((0 : Int) < (vn1 : Int)) = false := decide_eq_false (by rw [hvn.out, hg0]; simp)
        have b5 : decide (0 < vn1) = false := decide_eq_false (by rw [hvn.out, hg0]; simp)
        replace hg0 := Lib.hid hg0
        by_cases hc2 : 0 < c2
        focus
          have hask := hpc2.out hc2
          have b3 : decide ((0 : Int) < c2) = true := decide_eq_true hc2
          subst hask
          go_wp2
          go_meet
          case rel => exact ⟨rfl, rfl, rfl, rfl, rfl⟩
        focus
          have b3 : decide ((0 : Int) < c2) = false := decide_eq_false hc2
          go_wp2
          go_meet
          case rel => exact ⟨rfl, rfl, rfl, rfl, rfl⟩
      focus
        have b4 : decide ((0 : Int) < (vn1 : Int)) = true := decide_eq_true (by have := List.length_pos_iff.2 hg0; have := hvn.out; omega)
        have b5 : decide (0 < vn1) = true := decide_eq_true (by have := List.length_pos_iff.2 hg0; have := hvn.out; omega)
        have hwon : won = true := hpw2.out hg0
        replace hg0 := Lib.hid hg0
        subst hwon
        by_cases hc2 : 0 < c2
        focus
          have hask := hpc2.out hc2
          have b3 : decide ((0 : Int) < c2) = true := decide_eq_true hc2
          subst hask
          go_wp2
          go_meet
          case rel => exact ⟨rfl, rfl, rfl, rfl, rfl⟩
        focus
          have b3 : decide ((0 : Int) < c2) = false := decide_eq_false hc2
          go_wp2
          go_meet
          case rel => exact ⟨rfl, rfl, rfl, rfl, rfl⟩
    case rest =>
      obtain ⟨rfl, rfl, rfl, rfl, hwc⟩ := hcut
      rw [hwc]
      clear hwc wc hpw hpc
      go_upto_region 17 with fail
      go_cut [13] (fun v13 wc => ∃ e0 e1 e2 e3 : Int, v13 = .int .i64 ask ∧ Hid (Ps w B0 S n' R (R + 1) (some ⟨b, 0, none⟩) ec l u e0 e1 e2 e3 (.slice oa out.length oc) out wc) ∧ Hid (wc.heap[X]? = some (.cells #[.int .i64 (u).Kind, .int .i64 (u).Node, .int .i64 (u).State, .int .i64 (u).Count, .slice a1 (u).Ts.length c1', .int .i64 (u).L.X, .int .i64 (u).L.Y, .int .i64 (u).L.T] 26)) ∧ Hid (OwnG wc 0 (.slice va1 vn1 vc1) gs) ∧ Hid (ask ≠ 1 → PInv k u e1 e2 e3 won (out ++ gs)) ∧ Hid (ask = 1 → PInv k (win u).1 e1 e2 e3 true (out ++ gs ++ (win u).2)))
      case first =>
        have q1 := pv.out.a1
        have q2 := pv.out.a2
        have q3 := pv.out.a3
        have r1 : wrap64 (c1 + 1) = c1 + 1 := by unfold wrap64; omega
        have r2 : wrap64 (c2 + 1) = c2 + 1 := by unfold wrap64; omega
        have r3 : wrap64 (c3 + 1) = c3 + 1 := by unfold wrap64; omega
        clear q1 q2 q3
        have hxa : Hid (R + 1 < X) := hXR
        have hgr : ∀ j v, Hid ((W3.setCell ⟨R + 1, j, none⟩ v).heap[X]? = some (.cells #[.int .i64 (u).Kind, .int .i64 (u).Node, .int .i64 (u).State, .int .i64 (u).Count, .slice a1 (u).Ts.length c1', .int .i64 (u).L.X, .int .i64 (u).L.Y, .int .i64 (u).L.T] 26)) := fun j v => Lib.hid (heap_grown2 (grown_put _ _ _ _) hX3.out (fun k e => by cases e; have := hxa.out; omega))
        have hgg : ∀ j v, Hid (OwnG (W3.setCell ⟨R + 1, j, none⟩ v) 0 (.slice va1 vn1 vc1) gs) := fun j v => Lib.hid (hG3.out.grown (e' := 37) (grown_put _ _ _ _) (by decide) (fun b e => by cases e; exact ⟨_, _, ps3.out.asked⟩))
        replace hgr := Lib.hid hgr
        replace hgg := Lib.hid hgg
        rcases (show ask = 0 ∨ ask = 1 ∨ ask = 2 ∨ ask = 3 by omega) with rfl | rfl | rfl | rfl
        focus
          go_wp2
          go_meet
          case rel => exact ⟨_, _, _, _, rfl, Lib.hid (ps3.out.bump0 _), hgr.out _ _, hgg.out _ _, Lib.hid (fun _ => hpv.out.1 (by simp)), Lib.hid (fun h => by omega)⟩
        focus
          go_wp2
          go_meet
          case rel => exact ⟨_, _, _, _, rfl, Lib.hid (ps3.out.bump1 _), hgr.out _ _, hgg.out _ _, Lib.hid (fun h => by omega), Lib.hid (fun _ => hpv.out.2.2.2 (by simp))⟩
        focus
          go_wp2
          go_meet
          case rel => exact ⟨_, _, _, _, rfl, Lib.hid (ps3.out.bump2 _), hgr.out _ _, hgg.out _ _, Lib.hid (fun _ => hpv.out.2.1 (by simp)), Lib.hid (fun h => by omega)⟩
        focus
          go_wp2
          go_meet
          case rel => exact ⟨_, _, _, _, rfl, Lib.hid (ps3.out.bump3 _), hgr.out _ _, hgg.out _ _, Lib.hid (fun _ => hpv.out.2.2.1 (by simp)), Lib.hid (fun h => by omega)⟩
      case rest =>
        obtain ⟨e0, e1, e2, e3, rfl, ps, hX, hG, pv1, pv2⟩ := hcut
        clear A0 A1 A2 A3 Af hAl hG3 ps3 hX3 pv hpv b1 b2
        have hob : Hid (out.length + gs.length ≤ 1000) := Lib.hid (by omega)
        go_upto_region 18 with fail
        go_cut [8, 14] (fun v8 v14 wc => ∃ oa oc, v8 = .slice oa (out ++ gs).length oc ∧ v14 = .slice va1 vn1 vc1 ∧ Hid (Ps w B0 S n' R (R + 1) (some ⟨b, 0, none⟩) ec l u e0 e1 e2 e3 (.slice oa (out ++ gs).length oc) (out ++ gs) wc) ∧ Hid (wc.heap[X]? = some (.cells #[.int .i64 (u).Kind, .int .i64 (u).Node, .int .i64 (u).State, .int .i64 (u).Count, .slice a1 (u).Ts.length c1', .int .i64 (u).L.X, .int .i64 (u).L.Y, .int .i64 (u).L.T] 26)))
        case first =>
          by_cases hg0 : gs = []
          focus
            have hv := hG.out.2 hg0
            simp only [Value.slice.injEq] at hv
            obtain ⟨rfl, rfl, rfl⟩ := hv
            have hle := row_le ps.out.out
            replace hg0 := Lib.hid hg0
            go_wp2_with (at_builtin; refine wpList_append_none _ _ 38 49 (by kernel_rfl) Try.underlying38 _ _ _ hle rfl rfl rfl rfl ?_)
            go_meet
            case rel => exact ⟨oa, oc, by rw [hg0.out, List.append_nil], rfl, by rw [hg0.out, List.append_nil]; exact ps, hX⟩
          focus
            obtain ⟨gg, gc, hv, hnews⟩ := ownG_news hG.out hg0
            simp only [Value.slice.injEq] at hv
            obtain ⟨rfl, rfl, rfl⟩ := hv
            have hpos := List.length_pos_iff.2 hg0
            have hnl := hG.out.1.1
            replace hnews := Lib.hid hnews
            replace hnl := Lib.hid hnl
            replace hg0 := Lib.hid hg0
            go_wp2_with (at_builtin; refine wpList_append_row _ _ _ 38 49 _ 10 80 infoG Try.underlying38 rfl (by decide) B0 _ (out).length ((out).flatMap gesL) ps.out.out ⟨gg, 0, none⟩ (gs).length _ ((gs).flatMap gesL) hpos hnl.out hnews.out (ges_one _) (by unfold maxLen; have := hob.out; omega) (by have := hob.out; omega) ps.out.base rfl rfl rfl rfl ?_; intro g2 c2' w5 hown hg; (have ps' := Lib.hid (ps.out.app hg hown)); (have hX' := Lib.hid (heap_grown2 hg hX.out (own_other ps.out.out hX.out (by decide)))); clear hown hg ps hX)
            go_meet
            case rel => exact ⟨_, _, by rw [List.length_append], rfl, by rw [List.length_append]; exact ps', hX'⟩
        case rest =>
          clear ps hX hG hob hvn
          obtain ⟨oa', oc', rfl, rfl, ps, hX⟩ := hcut
          obtain ⟨O, hO⟩ : ∃ O, O = out ++ gs := ⟨_, rfl⟩
          rw [← hO] at ps pv1 pv2 ⊢
          have hOl : O.length ≤ 4 * i + 2 := by rw [hO, List.length_append]; omega
          clear hO
          go_upto_region 19 with fail
          go_cut [13, 86] (fun v13 v86 wc => ∃ t : Bool, v13 = .int .i64 ask ∧ v86 = .bool t ∧ Hid (ask = 1 → t = true) ∧ Hid (Ps w B0 S n' R (R + 1) (some ⟨b, 0, none⟩) ec l u e0 e1 e2 e3 (.slice oa' O.length oc') O wc) ∧ Hid (wc.heap[X]? = some (.cells #[.int .i64 (u).Kind, .int .i64 (u).Node, .int .i64 (u).State, .int .i64 (u).Count, .slice a1 (u).Ts.length c1', .int .i64 (u).L.X, .int .i64 (u).L.Y, .int .i64 (u).L.T] 26)))
          case first =>
            by_cases ha1 : ask = 1
            focus
              subst ha1
              go_wp2
              go_meet
              case rel => exact ⟨true, rfl, rfl, Lib.hid (fun _ => rfl), ps, hX⟩
            focus
              have ha2 : (ask == 1) = false := by simp [ha1]
              replace ha1 := Lib.hid ha1
              obtain ⟨at5, ss⟩ := ps.out.at_
              replace ss := Lib.hid ss
              go_wp2_with fail
              refine Calls.mono (src_Chance _ S n' _ ss.out 10 (by omega) (by omega)) ?_
              rintro _ w5 ⟨t, rfl, hd⟩
              have hX' := Lib.hid ((drawn_block hd (Array.getElem?_eq_some_iff.1 hX.out).1 (by have := ps.out.hR; have := hXR.out; obtain ⟨⟨q0, q1, q2, q3, q4, q5⟩, _⟩ := ps.out; have := q5.lt; omega)).trans hX.out)
              have ps' := Lib.hid (ps.out.draw hd)
              clear ss hd hX ps
              go_wp2
              go_meet
              case rel => exact ⟨t, rfl, rfl, Lib.hid (fun h => absurd h ha1.out), ps', hX'⟩
          case rest =>
            clear ps hX
            obtain ⟨t, rfl, rfl, ht, ps, hX⟩ := hcut
            cases t
            focus
              have ha1 : Hid (ask ≠ 1) := Lib.hid fun h => by cases ht.out h
              go_wp2
              go_roundg (l.length - (i + 1))
              case measure => have := hg.out; omega
              case rel => exact ⟨i + 1, u, e0, e1, e2, e3, won, oa', oc', O, rfl, rfl, by go_num, by omega, rfl, by omega, ps, hsf, Lib.hid (pv1.out ha1.out)⟩
            have hpw : PInv k (win u).1 e1 e2 e3 true (O ++ (win u).2) := by
              by_cases ha1 : ask = 1
              · exact pv2.out ha1
              · exact pinv_win (pv1.out ha1)
            have hq := fun a c w h' => win_g u hsf.out.ok a c w h'
            have hsw := hsf.out.win
            have hwl := win_len2 u
            obtain ⟨z, hz⟩ : ∃ z, z = win u := ⟨_, rfl⟩
            rw [← hz] at hq hsw hpw hwl
            simp only [recC] at hq
            clear hz pv1 pv2 ht hsf
            obtain ⟨u2, gs2⟩ := z
            simp only at hq hsw hpw hwl
            replace hq := Lib.hid hq
            replace hsw := Lib.hid hsw
            replace hpw := Lib.hid hpw
            obtain ⟨ra2, rq2, hRh, hts⟩ := ps.out.rc
            have y0 : wc.cell? ⟨R, 0, none⟩ = some (.int .i64 u.Kind) := heap_cell hRh 0
            have y1 : wc.cell? ⟨R, 1, none⟩ = some (.int .i64 u.Node) := heap_cell hRh 1
            have y2 : wc.cell? ⟨R, 2, none⟩ = some (.int .i64 u.State) := heap_cell hRh 2
            have y3 : wc.cell? ⟨R, 3, none⟩ = some (.int .i64 u.Count) := heap_cell hRh 3
            have y4 : wc.cell? ⟨R, 4, none⟩ = some (.slice ra2 u.Ts.length rq2) := heap_cell hRh 4
            have y5 : wc.cell? ⟨R, 5, none⟩ = some (.int .i64 u.L.X) := heap_cell hRh 5
            have y6 : wc.cell? ⟨R, 6, none⟩ = some (.int .i64 u.L.Y) := heap_cell hRh 6
            have y7 : wc.cell? ⟨R, 7, none⟩ = some (.int .i64 u.L.T) := heap_cell hRh 7
            have yf : ∀ i, wc.frozen? ⟨R, i, none⟩ = false := heap_thaw hRh
            have hRl : R < wc.heap.size := (Array.getElem?_eq_some_iff.1 hRh).1
            replace hts := Lib.hid hts
            clear hRh
            go_wp2_with fail
            refine Calls.mono (hq.out _ _ _ hts.out.rep) ?_
            rintro _ w5 ⟨a2, c2', v2, rfl, he5, t5, g5⟩
            obtain ⟨va2, vn2, vc2, rfl⟩ := g5.form
            have hX5 := Lib.hid (heap_some_ext hX.out he5)
            have ps5 := Lib.hid (ps.out.ext he5)
            replace t5 := Lib.hid t5
            replace g5 := Lib.hid g5
            clear y0 y1 y2 y3 y4 y5 y6 y7 yf hRl
            clear he5 ps hX hts hq
            obtain ⟨ra3, rq3, hRh, hts⟩ := ps5.out.rc
            have z0 : w5.cell? ⟨X, 0, none⟩ = some (.int .i64 u.Kind) := heap_cell hX5.out 0
            have z1 : w5.cell? ⟨X, 1, none⟩ = some (.int .i64 u.Node) := heap_cell hX5.out 1
            have z2 : w5.cell? ⟨X, 2, none⟩ = some (.int .i64 u.State) := heap_cell hX5.out 2
            have z3 : w5.cell? ⟨X, 3, none⟩ = some (.int .i64 u.Count) := heap_cell hX5.out 3
            have z4 : w5.cell? ⟨X, 4, none⟩ = some (.slice a1 u.Ts.length c1') := heap_cell hX5.out 4
            have z5 : w5.cell? ⟨X, 5, none⟩ = some (.int .i64 u.L.X) := heap_cell hX5.out 5
            have z6 : w5.cell? ⟨X, 6, none⟩ = some (.int .i64 u.L.Y) := heap_cell hX5.out 6
            have z7 : w5.cell? ⟨X, 7, none⟩ = some (.int .i64 u.L.T) := heap_cell hX5.out 7
            have zf : ∀ i, w5.frozen? ⟨X, i, none⟩ = false := heap_thaw hX5.out
            have hXl : X < w5.heap.size := (Array.getElem?_eq_some_iff.1 hX5.out).1
            replace hRh := Lib.hid hRh
            replace hts := Lib.hid hts
            go_upto_region 22 with fail
            obtain ⟨pg, ph⟩ := put8 (v0 := .int .i64 u2.Kind) (v1 := .int .i64 u2.Node) (v2 := .int .i64 u2.State) (v3 := .int .i64 u2.Count) (v4 := .slice a2 u2.Ts.length c2') (v5 := .int .i64 u2.L.X) (v6 := .int .i64 u2.L.Y) (v7 := .int .i64 u2.L.T) hX5.out
            clear z0 z1 z2 z3 z4 z5 z6 z7 zf hXl
            refine gen_at3 (p := fun W => Code.wp _ _ _ _ W) ?_
            intro w6 hW6
            rw [← hW6] at pg ph
            clear hW6
            have hbX : ∀ b, some X = some b → ∃ cur fr, w5.heap[b]? = some (.cells cur 26 fr) := fun b e => by cases e; exact ⟨_, _, hX5.out⟩
            have t6 := Lib.hid (t5.out.grown pg (by decide) (by decide) hbX)
            have g6 := Lib.hid (g5.out.grown pg (by decide) hbX)
            have hR6 := Lib.hid (heap_grown2 pg hRh.out (fun k e => by cases e; have := hXR.out; omega))
            have ps6 := Lib.hid (ps5.out.mend (q := u) pg (by have := ps5.out.hR; have := hXR.out; omega) (by have := hXR.out; omega) ⟨_, _, hX5.out⟩ ⟨ra3, rq3, hR6.out, hts.out.grown pg (by decide) (by decide) hbX⟩)
            have hX6 := Lib.hid ph
            clear hbX pg ph hX5 t5 g5 ps5 hRh hts
            have y0 : w6.cell? ⟨R, 0, none⟩ = some (.int .i64 u.Kind) := heap_cell hR6.out 0
            have y1 : w6.cell? ⟨R, 1, none⟩ = some (.int .i64 u.Node) := heap_cell hR6.out 1
            have y2 : w6.cell? ⟨R, 2, none⟩ = some (.int .i64 u.State) := heap_cell hR6.out 2
            have y3 : w6.cell? ⟨R, 3, none⟩ = some (.int .i64 u.Count) := heap_cell hR6.out 3
            have y4 : w6.cell? ⟨R, 4, none⟩ = some (.slice ra3 u.Ts.length rq3) := heap_cell hR6.out 4
            have y5 : w6.cell? ⟨R, 5, none⟩ = some (.int .i64 u.L.X) := heap_cell hR6.out 5
            have y6 : w6.cell? ⟨R, 6, none⟩ = some (.int .i64 u.L.Y) := heap_cell hR6.out 6
            have y7 : w6.cell? ⟨R, 7, none⟩ = some (.int .i64 u.L.T) := heap_cell hR6.out 7
            have yf : ∀ i, w6.frozen? ⟨R, i, none⟩ = false := heap_thaw hR6.out
            have hRl : R < w6.heap.size := (Array.getElem?_eq_some_iff.1 hR6.out).1
            have z0 : w6.cell? ⟨X, 0, none⟩ = some (.int .i64 u2.Kind) := heap_cell hX6.out 0
            have z1 : w6.cell? ⟨X, 1, none⟩ = some (.int .i64 u2.Node) := heap_cell hX6.out 1
            have z2 : w6.cell? ⟨X, 2, none⟩ = some (.int .i64 u2.State) := heap_cell hX6.out 2
            have z3 : w6.cell? ⟨X, 3, none⟩ = some (.int .i64 u2.Count) := heap_cell hX6.out 3
            have z4 : w6.cell? ⟨X, 4, none⟩ = some (.slice a2 u2.Ts.length c2') := heap_cell hX6.out 4
            have z5 : w6.cell? ⟨X, 5, none⟩ = some (.int .i64 u2.L.X) := heap_cell hX6.out 5
            have z6 : w6.cell? ⟨X, 6, none⟩ = some (.int .i64 u2.L.Y) := heap_cell hX6.out 6
            have z7 : w6.cell? ⟨X, 7, none⟩ = some (.int .i64 u2.L.T) := heap_cell hX6.out 7
            have zf : ∀ i, w6.frozen? ⟨X, i, none⟩ = false := heap_thaw hX6.out
            have hXl : X < w6.heap.size := (Array.getElem?_eq_some_iff.1 hX6.out).1
            go_upto_region 23 with fail
            obtain ⟨pg, ph⟩ := put8 (v0 := .int .i64 u2.Kind) (v1 := .int .i64 u2.Node) (v2 := .int .i64 u2.State) (v3 := .int .i64 u2.Count) (v4 := .slice a2 u2.Ts.length c2') (v5 := .int .i64 u2.L.X) (v6 := .int .i64 u2.L.Y) (v7 := .int .i64 u2.L.T) hR6.out
            clear y0 y1 y2 y3 y4 y5 y6 y7 yf hRl
            clear z0 z1 z2 z3 z4 z5 z6 z7 zf hXl
            refine gen_at3 (p := fun W => Code.wp _ _ _ _ W) ?_
            intro w7 hW7
            rw [← hW7] at pg ph
            clear hW7
            have hbR : ∀ b, some R = some b → ∃ cur fr, w6.heap[b]? = some (.cells cur 26 fr) := fun b e => by cases e; exact ⟨_, _, hR6.out⟩
            have g7 := Lib.hid (g6.out.grown pg (by decide) hbR)
            have ps := Lib.hid (ps6.out.mend (q := u2) pg ps6.out.hR ps6.out.hRA ⟨_, _, hR6.out⟩ ⟨a2, c2', ph, t6.out.grown pg (by decide) (by decide) hbR⟩)
            clear hbR pg ph hR6 t6 g6 ps6 hX6
            have hob : Hid (O.length + gs2.length ≤ 1000) := Lib.hid (by omega)
            by_cases hg0 : gs2 = []
            focus
              have hv := g7.out.2 hg0
              simp only [Value.slice.injEq] at hv
              obtain ⟨rfl, rfl, rfl⟩ := hv
              have hle := row_le ps.out.out
              replace hg0 := Lib.hid hg0
              go_wp2_with (at_builtin; refine wpList_append_none _ _ 38 49 (by kernel_rfl) Try.underlying38 _ _ _ hle rfl rfl rfl rfl ?_)
              go_roundg (l.length - (i + 1))
              case measure => have := hg.out; omega
              case rel => exact ⟨i + 1, u2, e0, e1, e2, e3, true, oa', oc', O, rfl, rfl, by go_num, by omega, rfl, by omega, ps, hsw, by have := hpw.out; rw [hg0.out, List.append_nil] at this; exact Lib.hid this⟩
            focus
              obtain ⟨gg, gc, hv, hnews⟩ := ownG_news g7.out hg0
              simp only [Value.slice.injEq] at hv
              obtain ⟨rfl, rfl, rfl⟩ := hv
              have hpos := List.length_pos_iff.2 hg0
              have hnl := g7.out.1.1
              replace hnews := Lib.hid hnews
              replace hnl := Lib.hid hnl
              replace hg0 := Lib.hid hg0
              go_wp2_with (at_builtin; refine wpList_append_row _ _ _ 38 49 _ 10 80 infoG Try.underlying38 rfl (by decide) B0 _ (O).length ((O).flatMap gesL) ps.out.out ⟨gg, 0, none⟩ (gs2).length _ ((gs2).flatMap gesL) hpos hnl.out hnews.out (ges_one _) (by unfold maxLen; have := hob.out; omega) (by have := hob.out; omega) ps.out.base rfl rfl rfl rfl ?_; intro g2 c2' w5 hown hg; (have ps' := Lib.hid (ps.out.app hg hown)); clear hown hg ps)
              go_roundg (l.length - (i + 1))
              case measure => have := hg.out; omega
              case rel => exact ⟨i + 1, u2, e0, e1, e2, e3, true, _, _, O ++ gs2, by rw [List.length_append], rfl, by go_num, by omega, rfl, by rw [List.length_append]; omega, by rw [List.length_append]; exact ps', hsw, hpw⟩
end Go.Proofs.Ytendgmnbnnkpnaa.G
