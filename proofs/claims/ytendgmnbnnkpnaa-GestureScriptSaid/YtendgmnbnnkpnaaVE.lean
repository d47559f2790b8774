/- The reference: down, over one touch of a pinch. The reference: down, joined. -/
import Derived.Test.YtendgmnbnnkpnaaVD
import Derived.WalkKit
import Derived.WalkSpells
import Derived.WalkLawsBesides
import Derived.Deep.QuietTactic
import Derived.BigQuiet
import Derived.BigRegion
import Derived.Lib.Hide
import Derived.Deep.RegionWith
set_option linter.unusedSimpArgs false
set_option linter.unusedVariables false
namespace Go
open Go.RowKit
theorem own_of_heap {Y : World} {cur : Array Value} {e : TypeId} {size n c B b : Nat} {xs : List Value} (hg : Y.heap[b]? = some (.cells cur e)) (hB : B ≤ b) (hs : cur.size = c * size) (hn : n ≤ c) (hm : c ≤ maxLen) (ht : cur.toList.take (n * size) = xs) :
    Y.ownsRow B e size (.slice (some ⟨b, 0, none⟩) n c) n xs :=
  ⟨by rw [← ht, List.length_take, Array.length_toList, hs]; exact Nat.min_eq_left (Nat.mul_le_mul_right _ hn), .inr ⟨_, c, cur, rfl, hB, hg, hn, hm, hs, ht⟩⟩
end Go
namespace Go.Proofs.Ytendgmnbnnkpnaa.G
open Go.RowKit
set_option maxRecDepth 100000 in
set_option maxHeartbeats 2000000 in
theorem r_down1 (r : Rec) (h : ROk r) (t : Tch) (hs : r.Ts = [t]) (h1 : TOk t) (hk : r.Kind = 7) (e : Ev) (hid : t.ID ≠ e.ID) (a : Option Addr) (cap : Nat) (w : World) (hr : RepT w a r.Ts) :
    Calls Try.prog 77 #[.agg #[.int .i64 (r).Kind, .int .i64 (r).Node, .int .i64 (r).State, .int .i64 (r).Count, .slice a (r).Ts.length cap, .int .i64 (r).L.X, .int .i64 (r).L.Y, .int .i64 (r).L.T], .int .i64 e.ID, .agg #[.int .i64 e.X, .int .i64 e.Y, .int .i64 e.Time]] w
      (RO ({ r with Ts := [⟨t.ID, latest t, [latest t]⟩, ⟨e.ID, smp e, [smp e]⟩], State := if r.State = 0 then 1 else r.State }, 0, []) w) := by
  have hto := fun w' (he : Ext w w') => r_touch r h e.ID a cap w' (hr.ext he)
  have hfi : fi r.Ts e.ID = -1 := by simp [fi, hs, find, List.findIdx?_cons, hid]
  rw [hfi] at hto
  have hl : r.Ts.length = 1 := by rw [hs]; rfl
  simp only [hl] at hto ⊢
  replace hto := Lib.hid hto
  rw [hs] at hr
  rcases hr with hr | ⟨b, off, rfl, hr⟩
  · cases hr
  obtain ⟨sb, so, sc, hm⟩ := hr.one
  have hb := hm.lt
  have hlat := Lib.hid fun w' (he : Ext w w') => r_latest t sb so sc w' h1 (hm.ss.ext he)
  have hat0 := Lib.hid fun w' (he : Ext w w') => cellsTch_at (hm.ext he)
  have b7 : (r.Kind == 7) = true := by simp [hk]
  have b2 : (r.Kind == 2) = false := by simp [hk]
  have b3 : decide (r.Kind ≤ 3) = false := by simp [hk]
  have b7' : (r.Kind != 7) = false := by simp [hk]
  simp only [smp]
  generalize latest t = z at *
  obtain ⟨st, hst⟩ : ∃ st, st = (if r.State = 0 then 1 else r.State) := ⟨_, rfl⟩
  rw [← hst]
  clear hr hm hfi hl hs h1 hk hid h
  rcases hb0 : (r.State == 0) with _ | _
  all_goals
    have hst2 := Lib.hid hst
    clear hst
    go_enter Try.func77, Try.ntmps77
    go_wp2_with fail; refine (hto.out _ ?_).mono ?_; (focus (repeat (first | exact Ext.refl _ | assumption | refine Ext.alloc ?_ _ | refine Ext.ext ?_ _ | refine Ext.drew ?_))); rintro _ _ ⟨rfl, d, rfl⟩
    go_wp2_with (at_builtin; refine wpList_append_nil _ _ _ 22 64 _ 5 56 infoT Try.underlying22 rfl (by decide) ⟨b, off, none⟩ 1 cap (cellsTch t sb so sc) (by decide) rfl ?_ (cellsTch_one _ _ _ _) (by unfold maxLen; omega) (by omega) rfl rfl rfl rfl ?_; exact hat0.out _ (by (repeat (first | exact Ext.refl _ | assumption | refine Ext.alloc ?_ _ | refine Ext.ext ?_ _ | refine Ext.drew ?_))); intro g0 c0 wa howna hea; obtain ⟨cur, hcur, hB⟩ := row_heap howna; obtain ⟨x, y, rfl, rfl⟩ := hea.split hcur hB; obtain ⟨q1, q2, q3, q4⟩ := row_cur howna hcur; have k0 := cur_get q4 (j := 0) rfl; have k1 := cur_get q4 (j := 1) rfl; have k2 := cur_get q4 (j := 2) rfl; have k3 := cur_get q4 (j := 3) rfl; have k4 := cur_get q4 (j := 4) rfl; have hsz5 : 5 ≤ cur.size := (by omega); replace q4 := Lib.hid q4; replace q1 := Lib.hid q1; clear howna hcur hB hea)
    go_wp2_with fail; refine (hlat.out _ ?_).mono ?_; (focus (repeat (first | exact Ext.refl _ | assumption | refine Ext.alloc ?_ _ | refine Ext.ext ?_ _ | refine Ext.drew ?_))); rintro _ _ ⟨rfl, dl, rfl⟩
    go_wp2
    (refine wp_region_segs (fun _ => none) [([0, 1, 2, 3, 4, 5, 6], .m, 7)] [] [8, 9] [10] (by kernel_rfl) (by kernel_rfl) (by simp only [List.map_cons, List.map_nil, List.filterMap_cons, List.filterMap_nil, List.getElem?_toArray, List.getElem?_cons_succ, List.getElem?_cons_zero]; try exact rfl) (by simp only [List.filterMap_cons, List.filterMap_nil, List.getElem?_toArray, List.getElem?_cons_succ, List.getElem?_cons_zero]; try exact rfl) (by simp only [List.filterMap_cons, List.filterMap_nil, List.getElem?_toArray, List.getElem?_cons_succ, List.getElem?_cons_zero]; try exact rfl) (by simp only [List.filterMap_cons, List.filterMap_nil, List.getElem?_toArray, List.getElem?_cons_succ, List.getElem?_cons_zero]; try exact rfl) (by decide) ?_)
    (refine sg_m ?_; (repeat (first | (refine ql_plain rfl rfl ?_; intro K hK; go_big_quiet_op; go_big_quiet_on) | (refine ql_nilCheck rfl rfl rfl ?_; intro K hK; simp only [Act.put, List.setIfInBounds_toArray, List.set_cons_succ, List.set_cons_zero]; go_big_quiet_on) | fail | (refine ql_skip rfl ?_; intro K hK; simp only [Act.put, List.setIfInBounds_toArray, List.set_cons_succ, List.set_cons_zero]; go_big_quiet_on))); refine ql_nil ?_)
    (refine sg_sl (.cells #[.int .i64 z.X, .int .i64 z.Y, .int .i64 z.T] 24) 1 rfl (by simp only [List.getElem?_toArray, List.getElem?_cons_succ, List.getElem?_cons_zero]; try exact rfl) rfl rfl (fun d => by go_simp) ?_; intro b1 hb1l hb1n K hK; simp only [Act.put, List.setIfInBounds_toArray, List.set_cons_succ, List.set_cons_zero]; refine hK _ ?_; clear hK K)
    (refine sg_last ?_; (repeat (first | (refine ql_plain rfl rfl ?_; intro K hK; go_big_quiet_op; go_big_quiet_on) | (refine ql_nilCheck rfl rfl rfl ?_; intro K hK; simp only [Act.put, List.setIfInBounds_toArray, List.set_cons_succ, List.set_cons_zero]; go_big_quiet_on) | fail | (refine ql_skip rfl ?_; intro K hK; simp only [Act.put, List.setIfInBounds_toArray, List.set_cons_succ, List.set_cons_zero]; go_big_quiet_on))); refine ql_nil ?_; (repeat (first | (refine pl_plain rfl rfl ?_; intro K hK; go_big_quiet_op; go_big_quiet_on) | (refine pl_nilCheck rfl rfl rfl ?_; intro K hK; simp only [Act.put, List.setIfInBounds_toArray, List.set_cons_succ, List.set_cons_zero]; go_big_quiet_on))); refine pl_nil ?_)
    rintro w1 he1 ⟨_, hf1⟩
    obtain ⟨d3, rfl⟩ := he1
    replace hf1 := Lib.hid hf1
    go_wp2; refine only_normal ?_
    go_wp2_with (at_builtin; refine gen_at (p := fun W => wpList _ _ _ _ _ W) ?_; intro W hW; have hrow : Hid (W.ownsRow (w.heap.size + 3) 64 5 (.slice (some ⟨w.heap.size + 1 + 1 + 1 + d.size + x.size, 0, none⟩) 1 c0) 1 (cellsTch ⟨t.ID, z, [z]⟩ b1 0 1)) := (by rw [hW]; refine Lib.hid ?_; apply own_of_heap; (repeat (first | (refine heap_new _ _ ?_; focus (first | with_reducible rfl | (simp only [World.size_ext, World.size_alloc]; done))) | refine heap_ext1 ?_ | refine heap_alloc1 ?_)); omega; (simp only [Array.size_setIfInBounds]; exact q1.out); exact q2; exact q3; (repeat rw [Array.toList_setIfInBounds, List.take_set]); rw [q4.out]; rfl); have hS1 : Hid (W.heap[b1]? = some (.cells #[.int .i64 z.X, .int .i64 z.Y, .int .i64 z.T] 24)) := (by rw [hW]; refine heap_alloc1 (heap_alloc1 (Eq.trans (Like.heap (S := fun k => k = w.heap.size + 1 + 1 + 1 + d.size + x.size) ?_ b1 ?_) hf1.out)); (repeat (first | exact Like.refl _ _ | refine Like.ext ?_ _ | refine Like.alloc ?_ _ | refine Like.swap ?_ (by simp <;> omega) _ _)); (simp only [World.size_ext, World.size_alloc] at hb1l; omega)); have hS2 : Hid (W.heap[w.heap.size + 1 + 1 + 1 + d.size + x.size + 1 + y.size + dl.size + 1 + d3.size]? = some (.cells #[.int .i64 e.X, .int .i64 e.Y, .int .i64 e.Time] 24)) := (by rw [hW]; (repeat (first | (refine heap_new _ _ ?_; focus (first | with_reducible rfl | (simp only [World.size_ext, World.size_alloc]; done))) | refine heap_ext1 ?_ | refine heap_alloc1 ?_))); have hT : Hid (W.heap[w.heap.size + 1 + 1 + 1 + d.size + x.size + 1 + y.size + dl.size + 1 + d3.size + 1]? = some (.cells #[.int .i64 e.ID, .int .i64 e.X, .int .i64 e.Y, .int .i64 e.Time, .slice (some ⟨w.heap.size + 1 + 1 + 1 + d.size + x.size + 1 + y.size + dl.size + 1 + d3.size, 0, none⟩) 1 1] 64)) := (by rw [hW]; (repeat (first | (refine heap_new _ _ ?_; focus (first | with_reducible rfl | (simp only [World.size_ext, World.size_alloc]; done))) | refine heap_ext1 ?_ | refine heap_alloc1 ?_))); have hE : Hid (Ext (((w.alloc (.cells #[.int .i64 r.Kind, .int .i64 r.Node, .int .i64 r.State, .int .i64 r.Count, .slice (some ⟨b, off, none⟩) 1 cap, .int .i64 r.L.X, .int .i64 r.L.Y, .int .i64 r.L.T] 26)).alloc (.cells #[.int .i64 e.X, .int .i64 e.Y, .int .i64 e.Time] 24)).alloc (.cells #[.int .i64 0, .int .i64 0, .int .i64 0, .int .i64 0, .slice none 0 0, .int .i64 0, .int .i64 0, .int .i64 0] 26)) W) := (by rw [hW]; show Ext _ _; (repeat (first | exact Ext.refl _ | assumption | refine Ext.alloc ?_ _ | refine Ext.ext ?_ _ | refine Ext.drew ?_))); have hsz : Hid (w.heap.size + 3 ≤ W.heap.size) := (by have := hE.out.size; simp only [World.size_alloc] at this; exact Nat.le_trans (by omega) this); clear hW; refine wpList_append_row _ _ _ 22 64 _ 5 56 infoT Try.underlying22 rfl (by decide) (w.heap.size + 3) _ 1 _ hrow.out ⟨w.heap.size + 1 + 1 + 1 + d.size + x.size + 1 + y.size + dl.size + 1 + d3.size + 1, 0, none⟩ 1 1 [.int .i64 e.ID, .int .i64 e.X, .int .i64 e.Y, .int .i64 e.Time, .slice (some ⟨w.heap.size + 1 + 1 + 1 + d.size + x.size + 1 + y.size + dl.size + 1 + d3.size, 0, none⟩) 1 1] (by decide) rfl (cells_at0 hT.out rfl) (by simp [Value.oneCell']) (by unfold maxLen; omega) (by omega) hsz.out rfl rfl rfl rfl ?_; intro g2 c2 w2 hown2 hg2; have hf3 : Hid (w2.heap[b1]? = some (.cells #[.int .i64 z.X, .int .i64 z.Y, .int .i64 z.T] 24)) := heap_grown hg2 hS1.out (own_ne' hrow.out hS1.out (by decide)); have hf4 : Hid (w2.heap[w.heap.size + 1 + 1 + 1 + d.size + x.size + 1 + y.size + dl.size + 1 + d3.size]? = some (.cells #[.int .i64 e.X, .int .i64 e.Y, .int .i64 e.Time] 24)) := heap_grown hg2 hS2.out (own_ne' hrow.out hS2.out (by decide)); have hE2 := Ext.of_grown hE.out hg2 (fun k hk => Nat.le_trans (Nat.le_of_eq (by simp only [World.size_alloc])) (hrow.out.lt k hk).1); obtain ⟨d9, rfl⟩ := hE2; replace hown2 := Lib.hid hown2; clear hrow hS1 hS2 hT hE hsz hg2)
    (refine bodyPost_ret (v := ?_) (by simp [results, Try.results77, go_sem]; rfl) rfl ?_)
    replace hst2 := hst2.out
    simp only [beq_iff_eq, beq_eq_false_iff_ne] at hb0
    first | rw [if_pos hb0] at hst2 | rw [if_neg hb0] at hst2
    subst hst2
    simp only [World.size_ext, World.size_alloc] at hb1l
    refine ⟨some ⟨g2, 0, none⟩, c2, none, 0, 0, rfl, ?_, .inr ⟨b1, 0, 1, _, 0, 1, ownsRow_base (ownsRow_like (S := fun k => k < w.heap.size + 3) hown2.out (by (repeat (first | exact Like.refl _ _ | refine Like.ext ?_ _ | refine Like.alloc ?_ _ | refine Like.swap ?_ (by simp <;> omega) _ _))) (fun b hb hs => ?_)) (Nat.zero_le _), smpIn_one (fr := (0, 0)) ((Like.heap (S := fun k => k < w.heap.size + 3) (X := (((w.alloc (.cells #[.int .i64 r.Kind, .int .i64 r.Node, .int .i64 r.State, .int .i64 r.Count, .slice (some ⟨b, off, none⟩) 1 cap, .int .i64 r.L.X, .int .i64 r.L.Y, .int .i64 r.L.T] 26)).alloc (.cells #[.int .i64 e.X, .int .i64 e.Y, .int .i64 e.Time] 24)).alloc (.cells #[.int .i64 0, .int .i64 0, .int .i64 0, .int .i64 0, .slice none 0 0, .int .i64 0, .int .i64 0, .int .i64 0] 26)).ext d9) (by (repeat (first | exact Like.refl _ _ | refine Like.ext ?_ _ | refine Like.alloc ?_ _ | refine Like.swap ?_ (by simp <;> omega) _ _))) b1 ?_).trans hf3.out), smpIn_one (fr := (0, 0)) ((Like.heap (S := fun k => k < w.heap.size + 3) (X := (((w.alloc (.cells #[.int .i64 r.Kind, .int .i64 r.Node, .int .i64 r.State, .int .i64 r.Count, .slice (some ⟨b, off, none⟩) 1 cap, .int .i64 r.L.X, .int .i64 r.L.Y, .int .i64 r.L.T] 26)).alloc (.cells #[.int .i64 e.X, .int .i64 e.Y, .int .i64 e.Time] 24)).alloc (.cells #[.int .i64 0, .int .i64 0, .int .i64 0, .int .i64 0, .slice none 0 0, .int .i64 0, .int .i64 0, .int .i64 0] 26)).ext d9) (by (repeat (first | exact Like.refl _ _ | refine Like.ext ?_ _ | refine Like.alloc ?_ _ | refine Like.swap ?_ (by simp <;> omega) _ _))) _ ?_).trans hf4.out)⟩, OwnG.none _ _⟩
    · (repeat (first | exact Ext.refl _ | assumption | refine Ext.alloc ?_ _ | refine Ext.ext ?_ _ | refine Ext.drew ?_))
    · have := (hown2.out.lt b hb).1
      omega
    · omega
    · omega
end Go.Proofs.Ytendgmnbnnkpnaa.G
namespace Go.Proofs.Ytendgmnbnnkpnaa.G
open Go.RowKit
def downQ (r : Rec) (e : Ev) : Rec × Int × List Ges := if (find r.Ts e.ID).isSome then (r, 0, []) else down r e
theorem fi_nonneg {ts : List Tch} {id : Int} (h : (find ts id).isSome = true) : ∃ k : Nat, fi ts id = (k : Int) := by
  obtain ⟨k, hk⟩ := Option.isSome_iff_exists.1 h
  exact ⟨k, by simp [fi, hk]⟩
theorem fi_neg {ts : List Tch} {id : Int} (h : (find ts id).isSome = false) : fi ts id = -1 := by
  have : find ts id = none := by simpa using h
  simp [fi, this]
set_option maxRecDepth 100000 in
set_option maxHeartbeats 2000000 in
theorem r_down_found (r : Rec) (h : ROk r) (e : Ev) (hf : (find r.Ts e.ID).isSome = true) (a : Option Addr) (cap : Nat) (w : World) (hr : TsO w a cap r.Ts) :
    Calls Try.prog 77 #[.agg #[.int .i64 (r).Kind, .int .i64 (r).Node, .int .i64 (r).State, .int .i64 (r).Count, .slice a (r).Ts.length cap, .int .i64 (r).L.X, .int .i64 (r).L.Y, .int .i64 (r).L.T], .int .i64 e.ID, .agg #[.int .i64 e.X, .int .i64 e.Y, .int .i64 e.Time]] w (RO (r, 0, []) w) := by
  have hto := fun w' (he : Ext w w') => r_touch r h e.ID a cap w' (hr.rep.ext he)
  obtain ⟨k, hk⟩ := fi_nonneg hf
  rw [hk] at hto
  replace hto := Lib.hid hto
  have bk : decide ((0 : Int) ≤ (k : Int)) = true := by simp
  have hm : r.Ts.length ≤ 9223372036854775807 := by have := h.len; have := room_le r.Kind; omega
  replace hr := Lib.hid hr
  clear hf hk h
  go_enter Try.func77, Try.ntmps77
  go_wp2_with fail; refine (hto.out _ ?_).mono ?_; (focus (repeat (first | exact Ext.refl _ | assumption | refine Ext.alloc ?_ _ | refine Ext.ext ?_ _ | refine Ext.drew ?_))); rintro _ _ ⟨rfl, d, rfl⟩
  go_wp2
  (refine bodyPost_ret (v := ?_) (by simp [results, Try.results77, go_sem]; rfl) rfl ?_)
  refine ⟨a, cap, none, 0, 0, rfl, ?_, hr.out.ext ?_, OwnG.none _ _⟩ <;> (repeat (first | exact Ext.refl _ | assumption | refine Ext.alloc ?_ _ | refine Ext.ext ?_ _ | refine Ext.drew ?_))
set_option maxRecDepth 100000 in
set_option maxHeartbeats 2000000 in
theorem r_down_fail (r : Rec) (h : ROk r) (e : Ev) (hne : r.Ts ≠ []) (hk : r.Kind ≤ 3) (hf : (find r.Ts e.ID).isSome = false) (a : Option Addr) (cap : Nat) (w : World) (hr : TsO w a cap r.Ts) :
    Calls Try.prog 77 #[.agg #[.int .i64 (r).Kind, .int .i64 (r).Node, .int .i64 (r).State, .int .i64 (r).Count, .slice a (r).Ts.length cap, .int .i64 (r).L.X, .int .i64 (r).L.Y, .int .i64 (r).L.T], .int .i64 e.ID, .agg #[.int .i64 e.X, .int .i64 e.Y, .int .i64 e.Time]] w (RO (fail r) w) := by
  have hto := fun w' (he : Ext w w') => r_touch r h e.ID a cap w' (hr.rep.ext he)
  rw [fi_neg hf] at hto
  replace hto := Lib.hid hto
  have hff := Lib.hid fun w => r_fail r a cap w
  have b3 : decide (r.Kind ≤ 3) = true := by simpa using hk
  have hl : 0 < r.Ts.length := List.length_pos_iff.2 hne
  have hl0 : decide ((0 : Int) < (r.Ts.length : Int)) = true := by simp; omega
  have hl1 : decide (0 < r.Ts.length) = true := by simp; omega
  have hm : r.Ts.length ≤ 9223372036854775807 := by have := h.len; have := room_le r.Kind; omega
  clear hr hf hk h hne
  go_enter Try.func77, Try.ntmps77
  go_wp2_with fail; refine (hto.out _ ?_).mono ?_; (focus (repeat (first | exact Ext.refl _ | assumption | refine Ext.alloc ?_ _ | refine Ext.ext ?_ _ | refine Ext.drew ?_))); rintro _ _ ⟨rfl, d, rfl⟩
  go_wp2_with fail; refine (hff.out _).mono ?_; rintro _ _ ⟨rfl, d2, rfl⟩
  go_wp2
  (refine bodyPost_ret (v := ?_) (by simp [results, Try.results77, go_sem]; rfl) rfl ?_)
  refine ⟨none, 0, none, 0, 0, rfl, ?_, .inl rfl, OwnG.none _ _⟩
  (repeat (first | exact Ext.refl _ | assumption | refine Ext.alloc ?_ _ | refine Ext.ext ?_ _ | refine Ext.drew ?_))
set_option maxRecDepth 100000 in
set_option maxHeartbeats 2000000 in
theorem r_down_full (r : Rec) (h : ROk r) (e : Ev) (hne : r.Ts ≠ []) (hk : ¬ r.Kind ≤ 3) (h7 : r.Kind = 7 → r.Ts.length = 2) (hf : (find r.Ts e.ID).isSome = false) (a : Option Addr) (cap : Nat) (w : World) (hr : TsO w a cap r.Ts) :
    Calls Try.prog 77 #[.agg #[.int .i64 (r).Kind, .int .i64 (r).Node, .int .i64 (r).State, .int .i64 (r).Count, .slice a (r).Ts.length cap, .int .i64 (r).L.X, .int .i64 (r).L.Y, .int .i64 (r).L.T], .int .i64 e.ID, .agg #[.int .i64 e.X, .int .i64 e.Y, .int .i64 e.Time]] w (RO (r, 0, []) w) := by
  have hto := fun w' (he : Ext w w') => r_touch r h e.ID a cap w' (hr.rep.ext he)
  rw [fi_neg hf] at hto
  replace hto := Lib.hid hto
  have b3 : decide (r.Kind ≤ 3) = false := by simpa using hk
  have b2 : (r.Kind == 2) = false := by simp; omega
  have hl : 0 < r.Ts.length := List.length_pos_iff.2 hne
  have hl0 : decide ((0 : Int) < (r.Ts.length : Int)) = true := by simp; omega
  have hl1 : decide (0 < r.Ts.length) = true := by simp; omega
  have hm : r.Ts.length ≤ 9223372036854775807 := by have := h.len; have := room_le r.Kind; omega
  have bx : (r.Kind != 7) = true ∨ ((r.Kind != 7) = false ∧ decide ((1 : Int) < (r.Ts.length : Int)) = true ∧ decide (1 < r.Ts.length) = true) := by
    by_cases hk7 : r.Kind = 7
    · have := h7 hk7
      exact .inr ⟨by simp [hk7], by simp [this], by simp [this]⟩
    · exact .inl (by simp [hk7])
  replace hr := Lib.hid hr
  clear hf hk h hne h7
  rcases bx with b7 | ⟨b7, b1, b1'⟩
  all_goals
    go_enter Try.func77, Try.ntmps77
    go_wp2_with fail; refine (hto.out _ ?_).mono ?_; (focus (repeat (first | exact Ext.refl _ | assumption | refine Ext.alloc ?_ _ | refine Ext.ext ?_ _ | refine Ext.drew ?_))); rintro _ _ ⟨rfl, d, rfl⟩
    go_wp2
    (refine bodyPost_ret (v := ?_) (by simp [results, Try.results77, go_sem]; rfl) rfl ?_)
    refine ⟨a, cap, none, 0, 0, rfl, ?_, hr.out.ext ?_, OwnG.none _ _⟩ <;> (repeat (first | exact Ext.refl _ | assumption | refine Ext.alloc ?_ _ | refine Ext.ext ?_ _ | refine Ext.drew ?_))
theorem r_down (r : Rec) (h : ROk r) (e : Ev) (hp : placed (smp e) = true) (a : Option Addr) (cap : Nat) (w : World) (hr : TsO w a cap r.Ts) :
    Calls Try.prog 77 #[.agg #[.int .i64 (r).Kind, .int .i64 (r).Node, .int .i64 (r).State, .int .i64 (r).Count, .slice a (r).Ts.length cap, .int .i64 (r).L.X, .int .i64 (r).L.Y, .int .i64 (r).L.T], .int .i64 e.ID, .agg #[.int .i64 e.X, .int .i64 e.Y, .int .i64 e.Time]] w (RO (downQ r e) w) := by
  by_cases hf : (find r.Ts e.ID).isSome = true
  · rw [downQ, if_pos hf]; exact r_down_found r h e hf a cap w hr
  · rw [downQ, if_neg hf]
    replace hf : (find r.Ts e.ID).isSome = false := by simpa using hf
    by_cases hne : r.Ts = []
    · exact r_down0 r h hne e hp a cap w
    by_cases hk : r.Kind ≤ 3
    · rw [show down r e = fail r by simp [down, hk, hne]]; exact r_down_fail r h e hne hk hf a cap w hr
    rcases h.shape with ht | ⟨t, ht, h1⟩ | ⟨t, u, ht, h1, h2, h7⟩
    · exact absurd ht hne
    · by_cases h7 : r.Kind = 7
      · have hid : t.ID ≠ e.ID := by
          intro hid; rw [ht] at hf; simp [find, List.findIdx?_cons, hid] at hf
        rw [show down r e = ({ r with Ts := [⟨t.ID, latest t, [latest t]⟩, ⟨e.ID, smp e, [smp e]⟩], State := if r.State = 0 then 1 else r.State }, 0, []) by simp [down, ht, h7, room]]
        exact r_down1 r h t ht h1 h7 e hid a cap w hr.rep
      · rw [show down r e = (r, 0, []) by simp [down, ht, h7, room, hk]; omega]
        exact r_down_full r h e hne hk (fun h => absurd h h7) hf a cap w hr
    · rw [show down r e = (r, 0, []) by simp [down, ht, h7, room]]
      exact r_down_full r h e hne hk (fun _ => by rw [ht]; rfl) hf a cap w hr
end Go.Proofs.Ytendgmnbnnkpnaa.G
