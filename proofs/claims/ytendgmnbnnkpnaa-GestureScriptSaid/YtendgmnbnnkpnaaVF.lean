/- The reference: Feed, a movement or the end of the only touch. -/
import Derived.Test.YtendgmnbnnkpnaaVC
import Derived.Test.YtendgmnbnnkpnaaVE
import Derived.Test.YtendgmnbnnkpnaaUA
import Derived.Test.YtendgmnbnnkpnaaUP
import Derived.WalkKit
import Derived.WalkSpells
import Derived.WalkLawsBesides
import Derived.Deep.QuietTactic
import Derived.BigQuiet
import Derived.BigRegion
import Derived.Lib.Hide
import Derived.Deep.RegionWith
set_option linter.unusedSimpArgs false
set_option linter.unusedVariables false
namespace Go.Proofs.Ytendgmnbnnkpnaa.G
open Go.RowKit
theorem SmpIn.turn {S : Nat → Prop} {X Y : World} {g o : Nat} {l : List Smp} (h : SmpIn X g o l) (hl : Like S X Y) (hg : ¬ S g) : SmpIn Y g o l := by
  obtain ⟨cur, fr, h1, h2⟩ := h
  exact ⟨cur, fr, (hl.heap g hg).trans h1, h2⟩
set_option maxRecDepth 100000 in
set_option maxHeartbeats 4000000 in
theorem r_feedA1lo (r : Rec) (h : ROk r) (t : Tch) (hs : r.Ts = [t]) (h1 : TOk t) (hlen : t.S.length < 8) (hc : cont r.Kind = true) (e : Ev) (hv : valid e = true) (hd : deaf r = false) (he : e.Kind = 2 ∨ e.Kind = 3) (hid : t.ID = e.ID) (a : Option Addr) (cap : Nat) (w : World) (hr : TsO w a cap r.Ts) (q : Rec × Int × List Ges)
    (hl : ∀ a' c' w', TsO w' a' c' [⟨t.ID, t.F, more t.S (smp e)⟩] → Calls Try.prog 79 #[.agg #[.int .i64 r.Kind, .int .i64 r.Node, .int .i64 r.State, .int .i64 r.Count, .slice a' 1 c', .int .i64 r.L.X, .int .i64 r.L.Y, .int .i64 r.L.T], .int .i64 e.Kind] w' (RO q w')) :
    Calls Try.prog 50 #[.agg #[.int .i64 (r).Kind, .int .i64 (r).Node, .int .i64 (r).State, .int .i64 (r).Count, .slice a (r).Ts.length cap, .int .i64 (r).L.X, .int .i64 (r).L.Y, .int .i64 (r).L.T], .agg #[.int .i64 (e).Kind, .int .i64 (e).ID, .int .i64 (e).X, .int .i64 (e).Y, .int .i64 (e).Time, .int .i64 (e).Wheel]] w (RO q w) := by
  have hva := r_valid e
  rw [hv] at hva
  have hde := r_deaf r
  rw [hd] at hde
  have hto := fun w' (he : Ext w w') => r_touch r h e.ID a cap w' (hr.rep.ext he)
  have hfi : fi r.Ts e.ID = 0 := by simp [fi, hs, find, List.findIdx?_cons, hid]
  rw [hfi] at hto
  have hL : r.Ts.length = 1 := by rw [hs]; rfl
  simp only [hL] at hto hde ⊢
  have hde2 := Lib.hid hde
  have hto2 := Lib.hid hto
  have hva2 := Lib.hid hva
  have b1 : (r.Kind == 1) = false := by simp [cont, btw] at hc ⊢; omega
  have b2 : (r.Kind == 2) = false := by simp [cont, btw] at hc ⊢; omega
  have b3 : (r.Kind == 3) = false := by simp [cont, btw] at hc ⊢; omega
  have e5 : (e.Kind == 5) = false := by simp; omega
  have e1 : (e.Kind == 1) = false := by simp; omega
  have e4 : (e.Kind == 4) = false := by simp; omega
  have hrep := hr.rep
  rw [hs] at hrep hr
  rcases hrep with hrep | ⟨b, off, rfl, hrep⟩
  · cases hrep
  obtain ⟨sb, so, sc, hm⟩ := hrep.one
  have hb := hm.lt
  have hat0 := Lib.hid fun w' (he : Ext w w') => cellsTch_at (hm.ext he)
  have hss := Lib.hid fun w' (he : Ext w w') => cellsS_at (hm.ss.ext he)
  have hsl := Lib.hid (cellsS_length t.S)
  have hso := Lib.hid (cellsS_one t.S)
  have hpos : 0 < t.S.length := List.length_pos_iff.2 h1.ne
  have hn8 := h1.len
  obtain ⟨p0, p1, p2, p3, p4, _⟩ := hm
  have hl2 := Lib.hid hl
  clear hva hde hto hl hfi hL hs h1 hd hv hid h hr hrep he
  have hn : t.S.length < 8 := hlen
  have hnb : decide (8 < t.S.length + 1) = false := by simp; omega
  have hni : decide ((8 : Int) < (t.S.length : Int) + 1) = false := by simp; omega
  focus
    go_enter Try.func50, Try.ntmps50
    go_wp2_with fail; refine (hva2.out _).mono ?_; rintro _ _ ⟨rfl, dv, rfl⟩
    go_wp2_with fail; refine (hde2.out _ _ _).mono ?_; rintro _ _ ⟨rfl, dd, rfl⟩
    go_wp2
    (refine wp_region_ext (by kernel_rfl) (by kernel_rfl) ?_; (repeat (go_big_quiet_step ((fail)))); refine wpQuiet_nil ?_; intro _ hwq; obtain ⟨dq, hwq⟩ := hwq; subst hwq)
    go_wp2_with fail
    refine (hto2.out _ ?_).mono ?_
    (focus (repeat (first | exact Ext.refl _ | assumption | refine Ext.alloc ?_ _ | refine Ext.ext ?_ _ | refine Ext.drew ?_)))
    rintro _ _ ⟨rfl, dt, rfl⟩
    go_wp2
    (refine wp_region_segs (fun i => if i = 2 then some (AppF (w.heap.size + 3) 24 3 t.S.length (cellsS t.S), AppS t.S.length) else none) [([0, 1], .m, 2), ([3], .m, 4)] [] [] [5, 6] (by kernel_rfl) (by kernel_rfl) (by simp only [List.map_cons, List.map_nil, List.filterMap_cons, List.filterMap_nil, List.getElem?_toArray, List.getElem?_cons_succ, List.getElem?_cons_zero]; try exact rfl) (by simp only [List.filterMap_cons, List.filterMap_nil, List.getElem?_toArray, List.getElem?_cons_succ, List.getElem?_cons_zero]; try exact rfl) (by simp only [List.filterMap_cons, List.filterMap_nil, List.getElem?_toArray, List.getElem?_cons_succ, List.getElem?_cons_zero]; try exact rfl) (by simp only [List.filterMap_cons, List.filterMap_nil, List.getElem?_toArray, List.getElem?_cons_succ, List.getElem?_cons_zero]; try exact rfl) (by decide) ?_)
    (refine sg_m ?_; (repeat (first | (refine ql_plain rfl rfl ?_; intro K hK; go_big_quiet_op; go_big_quiet_on) | (refine ql_nilCheck rfl rfl rfl ?_; intro K hK; simp only [Act.put, List.setIfInBounds_toArray, List.set_cons_succ, List.set_cons_zero]; go_big_quiet_on) | fail | (refine ql_skip rfl ?_; intro K hK; simp only [Act.put, List.setIfInBounds_toArray, List.set_cons_succ, List.set_cons_zero]; go_big_quiet_on))); refine ql_nil ?_)
    (refine sg_run (AppF (w.heap.size + 3) 24 3 t.S.length (cellsS t.S)) (AppS t.S.length) rfl AppF.shp (AppF.stable _ _ _ _ _) (by simp only [List.getElem?_toArray, List.getElem?_cons_succ, List.getElem?_cons_zero]; try exact rfl) rfl (fun d => (app_run _ _ 57 24 _ 3 24 infoS Try.underlying57 rfl (by decide) ⟨sb, so, none⟩ t.S.length sc (cellsS t.S) hpos hsl.out (hss.out _ (by (repeat (first | exact Ext.refl _ | assumption | refine Ext.alloc ?_ _ | refine Ext.ext ?_ _ | refine Ext.drew ?_)))) hso.out (by unfold maxLen; omega) (by omega) rfl rfl rfl (by simp only [World.size_ext, World.size_alloc]; omega))) ?_; intro u hu hS K hK; obtain ⟨a1, c1, rfl⟩ := hS; simp only [Act.put, List.setIfInBounds_toArray, List.set_cons_succ, List.set_cons_zero]; refine hK _ ?_; clear hK K)
    (refine sg_m ?_; (repeat (first | (refine ql_plain rfl rfl ?_; intro K hK; go_big_quiet_op; go_big_quiet_on) | (refine ql_nilCheck rfl rfl rfl ?_; intro K hK; simp only [Act.put, List.setIfInBounds_toArray, List.set_cons_succ, List.set_cons_zero]; go_big_quiet_on) | fail | (refine ql_skip rfl ?_; intro K hK; simp only [Act.put, List.setIfInBounds_toArray, List.set_cons_succ, List.set_cons_zero]; go_big_quiet_on))); refine ql_nil ?_)
    (refine sg_sl (.cells #[.int .i64 e.X, .int .i64 e.Y, .int .i64 e.Time] 24) 1 rfl (by simp only [List.getElem?_toArray, List.getElem?_cons_succ, List.getElem?_cons_zero]; try exact rfl) rfl rfl (fun d => by go_simp) ?_; intro b2 hb2l hb2n K hK; simp only [Act.put, List.setIfInBounds_toArray, List.set_cons_succ, List.set_cons_zero]; refine hK _ ?_; clear hK K)
    (refine sg_last ?_; (repeat (first | (refine ql_plain rfl rfl ?_; intro K hK; go_big_quiet_op; go_big_quiet_on) | (refine ql_nilCheck rfl rfl rfl ?_; intro K hK; simp only [Act.put, List.setIfInBounds_toArray, List.set_cons_succ, List.set_cons_zero]; go_big_quiet_on) | fail | (refine ql_skip rfl ?_; intro K hK; simp only [Act.put, List.setIfInBounds_toArray, List.set_cons_succ, List.set_cons_zero]; go_big_quiet_on))); refine ql_nil ?_; (repeat (first | (refine pl_plain rfl rfl ?_; intro K hK; go_big_quiet_op; go_big_quiet_on) | (refine pl_nilCheck rfl rfl rfl ?_; intro K hK; simp only [Act.put, List.setIfInBounds_toArray, List.set_cons_succ, List.set_cons_zero]; go_big_quiet_on))); refine pl_nil ?_)
    rintro w1 he1 ⟨⟨_, hf1⟩, hf2⟩
    obtain ⟨g, c, hgc, hown⟩ := hf1
    simp only [Value.slice.injEq, true_and] at hgc
    obtain ⟨rfl, rfl⟩ := hgc
    have hb1 : w.heap.size + 3 ≤ w1.heap.size := by have := he1.size; simp only [World.size_ext, World.size_alloc] at this; omega
    refine wpList_append_row _ _ _ 57 24 _ 3 24 infoS Try.underlying57 rfl (by decide) (w.heap.size + 3) _ t.S.length (cellsS t.S) hown ⟨b2, 0, none⟩ 1 1 [.int .i64 e.X, .int .i64 e.Y, .int .i64 e.Time] (by decide) rfl (cells_at0 hf2 rfl) (by simp [Value.oneCell']) (by unfold maxLen; omega) (by omega) hb1 rfl rfl rfl rfl ?_
    intro g2 c2 w2 hown2 hg2
    have hE2 := Ext.of_grown he1 hg2 (fun k hk => by
      have hk' : g = k := by simpa [Value.ownBlock] using hk
      subst hk'
      exact (hu g rfl).1)
    obtain ⟨hc2, hm2⟩ : t.S.length + 1 ≤ c2 ∧ c2 ≤ maxLen := by
      obtain ⟨cu, hcu, _⟩ := row_heap hown2
      obtain ⟨_, h2, h3, _⟩ := row_cur hown2 hcu
      exact ⟨h2, h3⟩
    clear hu hown hf2 hg2 hb1 he1 hb2l hb2n
    obtain ⟨d9, rfl⟩ := hE2
    replace hown2 := Lib.hid hown2
    go_wp2; refine only_normal ?_
    have hm2' := hm2
    unfold maxLen at hm2'
    have hk3 : ¬ c2 = t.S.length + 1 - 8 := by omega
    go_wp2_with (at_builtin; refine wpList_append_nil _ _ _ 22 64 _ 5 56 infoT Try.underlying22 rfl (by decide) ⟨b, off, none⟩ 1 cap (cellsTch t sb so sc) (by decide) rfl ?_ (cellsTch_one _ _ _ _) (by unfold maxLen; omega) (by omega) rfl rfl rfl rfl ?_; exact hat0.out _ (by (repeat (first | exact Ext.refl _ | assumption | refine Ext.alloc ?_ _ | refine Ext.ext ?_ _ | refine Ext.drew ?_))); intro g0 c0 wa howna hea; obtain ⟨cur, hcur, hB⟩ := row_heap howna; obtain ⟨x, y, rfl, rfl⟩ := hea.split hcur hB; obtain ⟨q1, q2, q3, q4⟩ := row_cur howna hcur; have k0 := cur_get q4 (j := 0) rfl; have k1 := cur_get q4 (j := 1) rfl; have k2 := cur_get q4 (j := 2) rfl; have k3 := cur_get q4 (j := 3) rfl; have k4 := cur_get q4 (j := 4) rfl; have hsz5 : 5 ≤ cur.size := (by omega); replace q4 := Lib.hid q4; replace q1 := Lib.hid q1; clear howna hcur hB hea)
    go_wp2_with fail; refine (r_dragging _ _).mono ?_; rintro _ _ ⟨rfl, rfl⟩
    rw [hc]
    go_wp2_with fail
    have hg2 : Hid (w.heap.size + 3 ≤ g2) := Lib.hid (hown2.out.lt g2 rfl).1
    refine Calls.mono (hl2.out _ _ _ ?_) ?_
    · have hn7 : t.S.length - 7 = 0 := by omega
      have hml : t.S.length + 1 = (more t.S (smp e)).length := by simp [more] <;> omega
      refine .inr ⟨g2, 0, c2, ?_, ?_⟩
      · apply own_of_heap
        (repeat (first | (refine heap_new _ _ ?_; focus (first | with_reducible rfl | (simp only [World.size_ext, World.size_alloc]; done))) | refine heap_ext1 ?_ | refine heap_alloc1 ?_))
        · exact Nat.zero_le _
        · simp only [Array.size_setIfInBounds]; exact q1.out
        · exact q2
        · exact q3
        · (repeat rw [Array.toList_setIfInBounds, List.take_set])
          rw [show List.take ([(⟨t.ID, t.F, more t.S (smp e)⟩ : Tch)].length * 5) cur.toList = cellsTch t sb so sc from q4.out]; simp only [cellsTch]; rw [← hml]; rfl
      · refine (SmpIn.ext (SmpIn.ext (SmpIn.ext ?_ (Ext.ext (Ext.refl _) x)) (Ext.alloc (Ext.refl _) _)) (Ext.ext (Ext.refl _) y))
        exact SmpIn.turn (S := fun k => k < w.heap.size + 3) (by have h0 := smpIn_more (k := 0) hown2.out (by omega); rw [Nat.zero_mul] at h0; exact h0) (by (repeat (first | exact Like.refl _ _ | refine Like.ext ?_ _ | refine Like.alloc ?_ _ | refine Like.swap ?_ (by simp <;> omega) _ _))) (by have := hg2.out; omega)
    · intro ex wx ho
      obtain ⟨xa, xc, xva, xvn, xvc, xd, rfl, rfl, xt, xg⟩ := ho.out
      replace xt := Lib.hid xt
      replace xg := Lib.hid xg
      clear ho
      go_wp2
      (refine bodyPost_ret (v := ?_) (by simp [results, Try.results50, go_sem]; rfl) rfl ?_)
      refine ⟨xa, xc, xva, xvn, xvc, rfl, ?_, TsO.turn xt.out (b := w.heap.size + 1 + 1) (z := #[.int .i64 0, .int .i64 0, .int .i64 0, .int .i64 0, .slice none 0 0, .int .i64 0, .int .i64 0, .int .i64 0]) (by (repeat (first | exact Like.refl _ _ | refine Like.ext ?_ _ | refine Like.alloc ?_ _ | refine Like.swap ?_ (by simp <;> omega) _ _))) (by (repeat (first | (refine heap_new _ _ ?_; focus (first | with_reducible rfl | (simp only [World.size_ext, World.size_alloc]; done))) | refine heap_ext1 ?_ | refine heap_alloc1 ?_))), xg.out.turn (S := fun k => k < w.heap.size + 3) (by simp only [World.size_ext, World.size_alloc]; omega) (by (repeat (first | exact Like.refl _ _ | refine Like.ext ?_ _ | refine Like.alloc ?_ _ | refine Like.swap ?_ (by simp <;> omega) _ _))) (fun k hk => by simp only [World.size_ext, World.size_alloc] at hk; omega)⟩
      (repeat (first | exact Ext.refl _ | assumption | refine Ext.alloc ?_ _ | refine Ext.ext ?_ _ | refine Ext.drew ?_))
set_option maxRecDepth 100000 in
set_option maxHeartbeats 4000000 in
theorem r_feedA1hi (r : Rec) (h : ROk r) (t : Tch) (hs : r.Ts = [t]) (h1 : TOk t) (hlen : 8 ≤ t.S.length) (hc : cont r.Kind = true) (e : Ev) (hv : valid e = true) (hd : deaf r = false) (he : e.Kind = 2 ∨ e.Kind = 3) (hid : t.ID = e.ID) (a : Option Addr) (cap : Nat) (w : World) (hr : TsO w a cap r.Ts) (q : Rec × Int × List Ges)
    (hl : ∀ a' c' w', TsO w' a' c' [⟨t.ID, t.F, more t.S (smp e)⟩] → Calls Try.prog 79 #[.agg #[.int .i64 r.Kind, .int .i64 r.Node, .int .i64 r.State, .int .i64 r.Count, .slice a' 1 c', .int .i64 r.L.X, .int .i64 r.L.Y, .int .i64 r.L.T], .int .i64 e.Kind] w' (RO q w')) :
    Calls Try.prog 50 #[.agg #[.int .i64 (r).Kind, .int .i64 (r).Node, .int .i64 (r).State, .int .i64 (r).Count, .slice a (r).Ts.length cap, .int .i64 (r).L.X, .int .i64 (r).L.Y, .int .i64 (r).L.T], .agg #[.int .i64 (e).Kind, .int .i64 (e).ID, .int .i64 (e).X, .int .i64 (e).Y, .int .i64 (e).Time, .int .i64 (e).Wheel]] w (RO q w) := by
  have hva := r_valid e
  rw [hv] at hva
  have hde := r_deaf r
  rw [hd] at hde
  have hto := fun w' (he : Ext w w') => r_touch r h e.ID a cap w' (hr.rep.ext he)
  have hfi : fi r.Ts e.ID = 0 := by simp [fi, hs, find, List.findIdx?_cons, hid]
  rw [hfi] at hto
  have hL : r.Ts.length = 1 := by rw [hs]; rfl
  simp only [hL] at hto hde ⊢
  have hde2 := Lib.hid hde
  have hto2 := Lib.hid hto
  have hva2 := Lib.hid hva
  have b1 : (r.Kind == 1) = false := by simp [cont, btw] at hc ⊢; omega
  have b2 : (r.Kind == 2) = false := by simp [cont, btw] at hc ⊢; omega
  have b3 : (r.Kind == 3) = false := by simp [cont, btw] at hc ⊢; omega
  have e5 : (e.Kind == 5) = false := by simp; omega
  have e1 : (e.Kind == 1) = false := by simp; omega
  have e4 : (e.Kind == 4) = false := by simp; omega
  have hrep := hr.rep
  rw [hs] at hrep hr
  rcases hrep with hrep | ⟨b, off, rfl, hrep⟩
  · cases hrep
  obtain ⟨sb, so, sc, hm⟩ := hrep.one
  have hb := hm.lt
  have hat0 := Lib.hid fun w' (he : Ext w w') => cellsTch_at (hm.ext he)
  have hss := Lib.hid fun w' (he : Ext w w') => cellsS_at (hm.ss.ext he)
  have hsl := Lib.hid (cellsS_length t.S)
  have hso := Lib.hid (cellsS_one t.S)
  have hpos : 0 < t.S.length := List.length_pos_iff.2 h1.ne
  have hn8 := h1.len
  obtain ⟨p0, p1, p2, p3, p4, _⟩ := hm
  have hl2 := Lib.hid hl
  clear hva hde hto hl hfi hL hs h1 hd hv hid h hr hrep he
  have hn : 8 ≤ t.S.length := hlen
  have hnb : decide (8 < t.S.length + 1) = true := by simp; omega
  have hni : decide ((8 : Int) < (t.S.length : Int) + 1) = true := by simp; omega
  focus
    go_enter Try.func50, Try.ntmps50
    go_wp2_with fail; refine (hva2.out _).mono ?_; rintro _ _ ⟨rfl, dv, rfl⟩
    go_wp2_with fail; refine (hde2.out _ _ _).mono ?_; rintro _ _ ⟨rfl, dd, rfl⟩
    go_wp2
    (refine wp_region_ext (by kernel_rfl) (by kernel_rfl) ?_; (repeat (go_big_quiet_step ((fail)))); refine wpQuiet_nil ?_; intro _ hwq; obtain ⟨dq, hwq⟩ := hwq; subst hwq)
    go_wp2_with fail
    refine (hto2.out _ ?_).mono ?_
    (focus (repeat (first | exact Ext.refl _ | assumption | refine Ext.alloc ?_ _ | refine Ext.ext ?_ _ | refine Ext.drew ?_)))
    rintro _ _ ⟨rfl, dt, rfl⟩
    go_wp2
    (refine wp_region_segs (fun i => if i = 2 then some (AppF (w.heap.size + 3) 24 3 t.S.length (cellsS t.S), AppS t.S.length) else none) [([0, 1], .m, 2), ([3], .m, 4)] [] [] [5, 6] (by kernel_rfl) (by kernel_rfl) (by simp only [List.map_cons, List.map_nil, List.filterMap_cons, List.filterMap_nil, List.getElem?_toArray, List.getElem?_cons_succ, List.getElem?_cons_zero]; try exact rfl) (by simp only [List.filterMap_cons, List.filterMap_nil, List.getElem?_toArray, List.getElem?_cons_succ, List.getElem?_cons_zero]; try exact rfl) (by simp only [List.filterMap_cons, List.filterMap_nil, List.getElem?_toArray, List.getElem?_cons_succ, List.getElem?_cons_zero]; try exact rfl) (by simp only [List.filterMap_cons, List.filterMap_nil, List.getElem?_toArray, List.getElem?_cons_succ, List.getElem?_cons_zero]; try exact rfl) (by decide) ?_)
    (refine sg_m ?_; (repeat (first | (refine ql_plain rfl rfl ?_; intro K hK; go_big_quiet_op; go_big_quiet_on) | (refine ql_nilCheck rfl rfl rfl ?_; intro K hK; simp only [Act.put, List.setIfInBounds_toArray, List.set_cons_succ, List.set_cons_zero]; go_big_quiet_on) | fail | (refine ql_skip rfl ?_; intro K hK; simp only [Act.put, List.setIfInBounds_toArray, List.set_cons_succ, List.set_cons_zero]; go_big_quiet_on))); refine ql_nil ?_)
    (refine sg_run (AppF (w.heap.size + 3) 24 3 t.S.length (cellsS t.S)) (AppS t.S.length) rfl AppF.shp (AppF.stable _ _ _ _ _) (by simp only [List.getElem?_toArray, List.getElem?_cons_succ, List.getElem?_cons_zero]; try exact rfl) rfl (fun d => (app_run _ _ 57 24 _ 3 24 infoS Try.underlying57 rfl (by decide) ⟨sb, so, none⟩ t.S.length sc (cellsS t.S) hpos hsl.out (hss.out _ (by (repeat (first | exact Ext.refl _ | assumption | refine Ext.alloc ?_ _ | refine Ext.ext ?_ _ | refine Ext.drew ?_)))) hso.out (by unfold maxLen; omega) (by omega) rfl rfl rfl (by simp only [World.size_ext, World.size_alloc]; omega))) ?_; intro u hu hS K hK; obtain ⟨a1, c1, rfl⟩ := hS; simp only [Act.put, List.setIfInBounds_toArray, List.set_cons_succ, List.set_cons_zero]; refine hK _ ?_; clear hK K)
    (refine sg_m ?_; (repeat (first | (refine ql_plain rfl rfl ?_; intro K hK; go_big_quiet_op; go_big_quiet_on) | (refine ql_nilCheck rfl rfl rfl ?_; intro K hK; simp only [Act.put, List.setIfInBounds_toArray, List.set_cons_succ, List.set_cons_zero]; go_big_quiet_on) | fail | (refine ql_skip rfl ?_; intro K hK; simp only [Act.put, List.setIfInBounds_toArray, List.set_cons_succ, List.set_cons_zero]; go_big_quiet_on))); refine ql_nil ?_)
    (refine sg_sl (.cells #[.int .i64 e.X, .int .i64 e.Y, .int .i64 e.Time] 24) 1 rfl (by simp only [List.getElem?_toArray, List.getElem?_cons_succ, List.getElem?_cons_zero]; try exact rfl) rfl rfl (fun d => by go_simp) ?_; intro b2 hb2l hb2n K hK; simp only [Act.put, List.setIfInBounds_toArray, List.set_cons_succ, List.set_cons_zero]; refine hK _ ?_; clear hK K)
    (refine sg_last ?_; (repeat (first | (refine ql_plain rfl rfl ?_; intro K hK; go_big_quiet_op; go_big_quiet_on) | (refine ql_nilCheck rfl rfl rfl ?_; intro K hK; simp only [Act.put, List.setIfInBounds_toArray, List.set_cons_succ, List.set_cons_zero]; go_big_quiet_on) | fail | (refine ql_skip rfl ?_; intro K hK; simp only [Act.put, List.setIfInBounds_toArray, List.set_cons_succ, List.set_cons_zero]; go_big_quiet_on))); refine ql_nil ?_; (repeat (first | (refine pl_plain rfl rfl ?_; intro K hK; go_big_quiet_op; go_big_quiet_on) | (refine pl_nilCheck rfl rfl rfl ?_; intro K hK; simp only [Act.put, List.setIfInBounds_toArray, List.set_cons_succ, List.set_cons_zero]; go_big_quiet_on))); refine pl_nil ?_)
    rintro w1 he1 ⟨⟨_, hf1⟩, hf2⟩
    obtain ⟨g, c, hgc, hown⟩ := hf1
    simp only [Value.slice.injEq, true_and] at hgc
    obtain ⟨rfl, rfl⟩ := hgc
    have hb1 : w.heap.size + 3 ≤ w1.heap.size := by have := he1.size; simp only [World.size_ext, World.size_alloc] at this; omega
    refine wpList_append_row _ _ _ 57 24 _ 3 24 infoS Try.underlying57 rfl (by decide) (w.heap.size + 3) _ t.S.length (cellsS t.S) hown ⟨b2, 0, none⟩ 1 1 [.int .i64 e.X, .int .i64 e.Y, .int .i64 e.Time] (by decide) rfl (cells_at0 hf2 rfl) (by simp [Value.oneCell']) (by unfold maxLen; omega) (by omega) hb1 rfl rfl rfl rfl ?_
    intro g2 c2 w2 hown2 hg2
    have hE2 := Ext.of_grown he1 hg2 (fun k hk => by
      have hk' : g = k := by simpa [Value.ownBlock] using hk
      subst hk'
      exact (hu g rfl).1)
    obtain ⟨hc2, hm2⟩ : t.S.length + 1 ≤ c2 ∧ c2 ≤ maxLen := by
      obtain ⟨cu, hcu, _⟩ := row_heap hown2
      obtain ⟨_, h2, h3, _⟩ := row_cur hown2 hcu
      exact ⟨h2, h3⟩
    clear hu hown hf2 hg2 hb1 he1 hb2l hb2n
    obtain ⟨d9, rfl⟩ := hE2
    replace hown2 := Lib.hid hown2
    go_wp2; refine only_normal ?_
    have hm2' := hm2
    unfold maxLen at hm2'
    have hk3 : ¬ c2 = t.S.length + 1 - 8 := by omega
    go_wp2_with (at_builtin; refine wpList_append_nil _ _ _ 22 64 _ 5 56 infoT Try.underlying22 rfl (by decide) ⟨b, off, none⟩ 1 cap (cellsTch t sb so sc) (by decide) rfl ?_ (cellsTch_one _ _ _ _) (by unfold maxLen; omega) (by omega) rfl rfl rfl rfl ?_; exact hat0.out _ (by (repeat (first | exact Ext.refl _ | assumption | refine Ext.alloc ?_ _ | refine Ext.ext ?_ _ | refine Ext.drew ?_))); intro g0 c0 wa howna hea; obtain ⟨cur, hcur, hB⟩ := row_heap howna; obtain ⟨x, y, rfl, rfl⟩ := hea.split hcur hB; obtain ⟨q1, q2, q3, q4⟩ := row_cur howna hcur; have k0 := cur_get q4 (j := 0) rfl; have k1 := cur_get q4 (j := 1) rfl; have k2 := cur_get q4 (j := 2) rfl; have k3 := cur_get q4 (j := 3) rfl; have k4 := cur_get q4 (j := 4) rfl; have hsz5 : 5 ≤ cur.size := (by omega); replace q4 := Lib.hid q4; replace q1 := Lib.hid q1; clear howna hcur hB hea)
    go_wp2_with fail; refine (r_dragging _ _).mono ?_; rintro _ _ ⟨rfl, rfl⟩
    rw [hc]
    go_wp2_with fail
    have hg2 : Hid (w.heap.size + 3 ≤ g2) := Lib.hid (hown2.out.lt g2 rfl).1
    refine Calls.mono (hl2.out _ _ _ ?_) ?_
    · have hml : t.S.length + 1 - (t.S.length - 7) = (more t.S (smp e)).length := by simp [more] <;> omega
      refine .inr ⟨g2, (t.S.length - 7) * 3, c2 - (t.S.length - 7), ?_, ?_⟩
      · apply own_of_heap
        (repeat (first | (refine heap_new _ _ ?_; focus (first | with_reducible rfl | (simp only [World.size_ext, World.size_alloc]; done))) | refine heap_ext1 ?_ | refine heap_alloc1 ?_))
        · exact Nat.zero_le _
        · simp only [Array.size_setIfInBounds]; exact q1.out
        · exact q2
        · exact q3
        · (repeat rw [Array.toList_setIfInBounds, List.take_set])
          rw [show List.take ([(⟨t.ID, t.F, more t.S (smp e)⟩ : Tch)].length * 5) cur.toList = cellsTch t sb so sc from q4.out]; simp only [cellsTch]; rw [← hml]; rfl
      · refine (SmpIn.ext (SmpIn.ext (SmpIn.ext ?_ (Ext.ext (Ext.refl _) x)) (Ext.alloc (Ext.refl _) _)) (Ext.ext (Ext.refl _) y))
        exact SmpIn.turn (S := fun k => k < w.heap.size + 3) (smpIn_more (k := t.S.length - 7) hown2.out (by omega)) (by (repeat (first | exact Like.refl _ _ | refine Like.ext ?_ _ | refine Like.alloc ?_ _ | refine Like.swap ?_ (by simp <;> omega) _ _))) (by have := hg2.out; omega)
    · intro ex wx ho
      obtain ⟨xa, xc, xva, xvn, xvc, xd, rfl, rfl, xt, xg⟩ := ho.out
      replace xt := Lib.hid xt
      replace xg := Lib.hid xg
      clear ho
      go_wp2
      (refine bodyPost_ret (v := ?_) (by simp [results, Try.results50, go_sem]; rfl) rfl ?_)
      refine ⟨xa, xc, xva, xvn, xvc, rfl, ?_, TsO.turn xt.out (b := w.heap.size + 1 + 1) (z := #[.int .i64 0, .int .i64 0, .int .i64 0, .int .i64 0, .slice none 0 0, .int .i64 0, .int .i64 0, .int .i64 0]) (by (repeat (first | exact Like.refl _ _ | refine Like.ext ?_ _ | refine Like.alloc ?_ _ | refine Like.swap ?_ (by simp <;> omega) _ _))) (by (repeat (first | (refine heap_new _ _ ?_; focus (first | with_reducible rfl | (simp only [World.size_ext, World.size_alloc]; done))) | refine heap_ext1 ?_ | refine heap_alloc1 ?_))), xg.out.turn (S := fun k => k < w.heap.size + 3) (by simp only [World.size_ext, World.size_alloc]; omega) (by (repeat (first | exact Like.refl _ _ | refine Like.ext ?_ _ | refine Like.alloc ?_ _ | refine Like.swap ?_ (by simp <;> omega) _ _))) (fun k hk => by simp only [World.size_ext, World.size_alloc] at hk; omega)⟩
      (repeat (first | exact Ext.refl _ | assumption | refine Ext.alloc ?_ _ | refine Ext.ext ?_ _ | refine Ext.drew ?_))
end Go.Proofs.Ytendgmnbnnkpnaa.G
