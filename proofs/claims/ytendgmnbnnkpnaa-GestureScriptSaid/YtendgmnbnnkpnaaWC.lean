/- The law's pair of recognisers: abort and defeat. The law's pair of recognisers while numbers are drawn. -/
import Derived.Test.YtendgmnbnnkpnaaVR
import Derived.Test.YtendgmnbnnkpnaaWB
import Derived.Test.YtendgmnbnnkpnaaUQ
import Derived.WalkKit
import Derived.WalkSpells
import Derived.WalkLawsBesides
import Derived.Deep.QuietTactic
import Derived.BigQuiet
import Derived.BigRegion
import Derived.Lib.Hide
import Derived.Deep.RegionWith
set_option linter.unusedSimpArgs false
set_option linter.unusedVariables false
namespace Go.Proofs.Ytendgmnbnnkpnaa.G
open Go.RowKit
theorem abort_ts (r : Rec) : (abort r).1.Ts = [] := by unfold abort; split <;> rfl
theorem abort_len (r : Rec) : (abort r).2.length ≤ 2 := by unfold abort; split <;> simp
theorem over_okA (r : Rec) (h : ROk r) : ROk (abort r).1 := by unfold abort; split <;> exact over_ok h
theorem OwnG.base {w : World} {B : Nat} {v : Value} {gs : List Ges} (h : OwnG w B v gs) : OwnG w 0 v gs := ⟨ownsRow_base h.1 (Nat.zero_le _), h.2⟩
theorem abort_g (r : Rec) (h : ROk r) (a : Option Addr) (cap : Nat) (w : World) (hr : RepT w a r.Ts) :
    Calls Try.prog 47 #[.agg #[.int .i64 r.Kind, .int .i64 r.Node, .int .i64 r.State, .int .i64 r.Count, .slice a r.Ts.length cap, .int .i64 r.L.X, .int .i64 r.L.Y, .int .i64 r.L.T]] w fun e w' =>
      ∃ a' c' v, e = .returned (.tuple #[.agg (recC (abort r).1 a' c').toArray, v]) ∧ Ext w w' ∧ TsO w' a' c' (abort r).1.Ts ∧ OwnG w' 0 v (abort r).2 :=
  (abort_r r h a cap w hr).mono fun e w' ⟨a', c', v, h1, h2, _, h4⟩ => ⟨a', c', v, h1, h2, .inl (abort_ts r), h4.base⟩
theorem rabort_g (r : Rec) (h : ROk r) (a : Option Addr) (cap : Nat) (w : World) (hr : TsO w a cap r.Ts) :
    Calls Try.prog 48 #[.agg #[.int .i64 (r).Kind, .int .i64 (r).Node, .int .i64 (r).State, .int .i64 (r).Count, .slice a (r).Ts.length cap, .int .i64 (r).L.X, .int .i64 (r).L.Y, .int .i64 (r).L.T]] w fun e w' =>
      ∃ a' c' v, e = .returned (.tuple #[.agg (recC (abort r).1 a' c').toArray, v]) ∧ Ext w w' ∧ TsO w' a' c' (abort r).1.Ts ∧ OwnG w' 0 v (abort r).2 :=
  (r_abort r h a cap w hr.rep).mono fun e w' ⟨a', c', v, h1, h2, h3, h4⟩ => ⟨a', c', v, h1, h2, h3, h4.base⟩
set_option maxRecDepth 100000 in
set_option maxHeartbeats 4000000 in
theorem both_abort (w0 w : World) (M : Nat) (r : Rec) (h : ROk r) (hB : Both w0 w M r) :
    Calls Try.prog 28 #[.pointer (some ⟨M, 0, none⟩), .int .i64 2] w fun x w' => ∃ v, x = .returned v ∧ Both w0 w' M (abort r).1 ∧ Turned M w w' := by
  obtain ⟨D1, D2, a, c, a', c', rfl, rfl, h1, h2⟩ := hB
  have hq := fun a c w h' => abort_g r h a c w h'
  have hq' := fun a c w h' => rabort_g r h a c w h'
  have hqk : ROk (abort r).1 := over_okA r h
  have hlen := abort_len r
  obtain ⟨q, hqd⟩ : ∃ q, q = abort r := ⟨_, rfl⟩
  rw [← hqd] at hq hq' hqk hlen ⊢
  simp only [recC] at hq hq'
  have heq := Lib.hid fun a a' c c' w hr hr' => r_equal q.1 hqk a a' c c' w hr hr'
  have heg := Lib.hid fun v v' w (hr : OwnG w 0 v q.2) (hr' : OwnG w 0 v' q.2) => r_equalG q.2 hlen v v' w hr.rep hr'.rep
  replace hq := Lib.hid hq
  replace hq' := Lib.hid hq'
  replace h1 := Lib.hid h1
  replace h2 := Lib.hid h2
  clear hqd h hlen hqk
  go_enter Try.func28, Try.ntmps28
  go_wp2_with fail
  refine Calls.mono (hq.out _ _ _ h1.out.rep) ?_
  rintro _ _ ⟨a1, c1, v1, rfl, ⟨d1, rfl⟩, t1, g1⟩
  replace t1 := Lib.hid t1
  replace g1 := Lib.hid g1
  go_wp2_with fail
  refine Calls.mono (hq'.out _ _ _ (TsO.ext (TsO.turnB h2.out (w' := ((w0.ext D1).alloc (.cells #[.int .i64 q.1.Kind, .int .i64 q.1.Node, .int .i64 q.1.State, .int .i64 q.1.Count, .slice a1 q.1.Ts.length c1, .int .i64 q.1.L.X, .int .i64 q.1.L.Y, .int .i64 q.1.L.T, .int .i64 r.Kind, .int .i64 r.Node, .int .i64 r.State, .int .i64 r.Count, .slice a' r.Ts.length c', .int .i64 r.L.X, .int .i64 r.L.Y, .int .i64 r.L.T, .bool true] 68)).ext D2) (b := (w0.ext D1).heap.size) (z := #[.int .i64 (r).Kind, .int .i64 (r).Node, .int .i64 (r).State, .int .i64 (r).Count, .slice a (r).Ts.length c, .int .i64 (r).L.X, .int .i64 (r).L.Y, .int .i64 (r).L.T, .int .i64 (r).Kind, .int .i64 (r).Node, .int .i64 (r).State, .int .i64 (r).Count, .slice a' (r).Ts.length c', .int .i64 (r).L.X, .int .i64 (r).L.Y, .int .i64 (r).L.T, .bool true]) (by (repeat (first | exact Like.refl _ _ | refine Like.ext ?_ _ | refine Like.alloc ?_ _ | refine Like.swap ?_ (by simp <;> omega) _ _))) (by (repeat (first | (refine heap_new _ _ ?_; focus (first | with_reducible rfl | (simp only [World.size_ext, World.size_alloc]; done))) | refine heap_ext1 ?_ | refine heap_alloc1 ?_)))) ?_)) ?_
  focus (repeat (first | exact Ext.refl _ | assumption | refine Ext.alloc ?_ _ | refine Ext.ext ?_ _ | refine Ext.drew ?_))
  rintro _ _ ⟨a2, c2, v2, rfl, ⟨d2, rfl⟩, t2, g2⟩
  replace t2 := Lib.hid t2
  replace g2 := Lib.hid g2
  have hU1 := Lib.hid fun w' (he : Ext ((((w0.ext D1).alloc (.cells #[.int .i64 (q.1).Kind, .int .i64 (q.1).Node, .int .i64 (q.1).State, .int .i64 (q.1).Count, .slice a1 (q.1).Ts.length c1, .int .i64 (q.1).L.X, .int .i64 (q.1).L.Y, .int .i64 (q.1).L.T, .int .i64 (q.1).Kind, .int .i64 (q.1).Node, .int .i64 (q.1).State, .int .i64 (q.1).Count, .slice a2 (q.1).Ts.length c2, .int .i64 (q.1).L.X, .int .i64 (q.1).L.Y, .int .i64 (q.1).L.T, .bool true] 68)).ext D2).ext d1) w') => (TsO.turnB t1.out (w' := (((w0.ext D1).alloc (.cells #[.int .i64 (q.1).Kind, .int .i64 (q.1).Node, .int .i64 (q.1).State, .int .i64 (q.1).Count, .slice a1 (q.1).Ts.length c1, .int .i64 (q.1).L.X, .int .i64 (q.1).L.Y, .int .i64 (q.1).L.T, .int .i64 (q.1).Kind, .int .i64 (q.1).Node, .int .i64 (q.1).State, .int .i64 (q.1).Count, .slice a2 (q.1).Ts.length c2, .int .i64 (q.1).L.X, .int .i64 (q.1).L.Y, .int .i64 (q.1).L.T, .bool true] 68)).ext D2).ext d1) (b := (w0.ext D1).heap.size) (z := #[.int .i64 (r).Kind, .int .i64 (r).Node, .int .i64 (r).State, .int .i64 (r).Count, .slice a (r).Ts.length c, .int .i64 (r).L.X, .int .i64 (r).L.Y, .int .i64 (r).L.T, .int .i64 (r).Kind, .int .i64 (r).Node, .int .i64 (r).State, .int .i64 (r).Count, .slice a' (r).Ts.length c', .int .i64 (r).L.X, .int .i64 (r).L.Y, .int .i64 (r).L.T, .bool true]) (by (repeat (first | exact Like.refl _ _ | refine Like.ext ?_ _ | refine Like.alloc ?_ _ | refine Like.swap ?_ (by simp <;> omega) _ _))) (by (repeat (first | (refine heap_new _ _ ?_; focus (first | with_reducible rfl | (simp only [World.size_ext, World.size_alloc]; done))) | refine heap_ext1 ?_ | refine heap_alloc1 ?_)))).ext he
  have hU2 := Lib.hid fun w' (he : Ext (((((w0.ext D1).alloc (.cells #[.int .i64 (q.1).Kind, .int .i64 (q.1).Node, .int .i64 (q.1).State, .int .i64 (q.1).Count, .slice a1 (q.1).Ts.length c1, .int .i64 (q.1).L.X, .int .i64 (q.1).L.Y, .int .i64 (q.1).L.T, .int .i64 (q.1).Kind, .int .i64 (q.1).Node, .int .i64 (q.1).State, .int .i64 (q.1).Count, .slice a2 (q.1).Ts.length c2, .int .i64 (q.1).L.X, .int .i64 (q.1).L.Y, .int .i64 (q.1).L.T, .bool true] 68)).ext D2).ext d1).ext d2) w') => (TsO.turnB t2.out (w' := ((((w0.ext D1).alloc (.cells #[.int .i64 (q.1).Kind, .int .i64 (q.1).Node, .int .i64 (q.1).State, .int .i64 (q.1).Count, .slice a1 (q.1).Ts.length c1, .int .i64 (q.1).L.X, .int .i64 (q.1).L.Y, .int .i64 (q.1).L.T, .int .i64 (q.1).Kind, .int .i64 (q.1).Node, .int .i64 (q.1).State, .int .i64 (q.1).Count, .slice a2 (q.1).Ts.length c2, .int .i64 (q.1).L.X, .int .i64 (q.1).L.Y, .int .i64 (q.1).L.T, .bool true] 68)).ext D2).ext d1).ext d2) (b := (w0.ext D1).heap.size) (z := #[.int .i64 q.1.Kind, .int .i64 q.1.Node, .int .i64 q.1.State, .int .i64 q.1.Count, .slice a1 q.1.Ts.length c1, .int .i64 q.1.L.X, .int .i64 q.1.L.Y, .int .i64 q.1.L.T, .int .i64 r.Kind, .int .i64 r.Node, .int .i64 r.State, .int .i64 r.Count, .slice a' r.Ts.length c', .int .i64 r.L.X, .int .i64 r.L.Y, .int .i64 r.L.T, .bool true]) (by (repeat (first | exact Like.refl _ _ | refine Like.ext ?_ _ | refine Like.alloc ?_ _ | refine Like.swap ?_ (by simp <;> omega) _ _))) (by (repeat (first | (refine heap_new _ _ ?_; focus (first | with_reducible rfl | (simp only [World.size_ext, World.size_alloc]; done))) | refine heap_ext1 ?_ | refine heap_alloc1 ?_)))).ext he
  have hV1 := Lib.hid fun w' (he : Ext ((((w0.ext D1).alloc (.cells #[.int .i64 (q.1).Kind, .int .i64 (q.1).Node, .int .i64 (q.1).State, .int .i64 (q.1).Count, .slice a1 (q.1).Ts.length c1, .int .i64 (q.1).L.X, .int .i64 (q.1).L.Y, .int .i64 (q.1).L.T, .int .i64 (q.1).Kind, .int .i64 (q.1).Node, .int .i64 (q.1).State, .int .i64 (q.1).Count, .slice a2 (q.1).Ts.length c2, .int .i64 (q.1).L.X, .int .i64 (q.1).L.Y, .int .i64 (q.1).L.T, .bool true] 68)).ext D2).ext d1) w') => (OwnG.turnB g1.out (w' := (((w0.ext D1).alloc (.cells #[.int .i64 (q.1).Kind, .int .i64 (q.1).Node, .int .i64 (q.1).State, .int .i64 (q.1).Count, .slice a1 (q.1).Ts.length c1, .int .i64 (q.1).L.X, .int .i64 (q.1).L.Y, .int .i64 (q.1).L.T, .int .i64 (q.1).Kind, .int .i64 (q.1).Node, .int .i64 (q.1).State, .int .i64 (q.1).Count, .slice a2 (q.1).Ts.length c2, .int .i64 (q.1).L.X, .int .i64 (q.1).L.Y, .int .i64 (q.1).L.T, .bool true] 68)).ext D2).ext d1) (b := (w0.ext D1).heap.size) (z := #[.int .i64 (r).Kind, .int .i64 (r).Node, .int .i64 (r).State, .int .i64 (r).Count, .slice a (r).Ts.length c, .int .i64 (r).L.X, .int .i64 (r).L.Y, .int .i64 (r).L.T, .int .i64 (r).Kind, .int .i64 (r).Node, .int .i64 (r).State, .int .i64 (r).Count, .slice a' (r).Ts.length c', .int .i64 (r).L.X, .int .i64 (r).L.Y, .int .i64 (r).L.T, .bool true]) (by (repeat (first | exact Like.refl _ _ | refine Like.ext ?_ _ | refine Like.alloc ?_ _ | refine Like.swap ?_ (by simp <;> omega) _ _))) (by (repeat (first | (refine heap_new _ _ ?_; focus (first | with_reducible rfl | (simp only [World.size_ext, World.size_alloc]; done))) | refine heap_ext1 ?_ | refine heap_alloc1 ?_)))).ext he
  have hV2 := Lib.hid fun w' (he : Ext (((((w0.ext D1).alloc (.cells #[.int .i64 (q.1).Kind, .int .i64 (q.1).Node, .int .i64 (q.1).State, .int .i64 (q.1).Count, .slice a1 (q.1).Ts.length c1, .int .i64 (q.1).L.X, .int .i64 (q.1).L.Y, .int .i64 (q.1).L.T, .int .i64 (q.1).Kind, .int .i64 (q.1).Node, .int .i64 (q.1).State, .int .i64 (q.1).Count, .slice a2 (q.1).Ts.length c2, .int .i64 (q.1).L.X, .int .i64 (q.1).L.Y, .int .i64 (q.1).L.T, .bool true] 68)).ext D2).ext d1).ext d2) w') => (OwnG.turnB g2.out (w' := ((((w0.ext D1).alloc (.cells #[.int .i64 (q.1).Kind, .int .i64 (q.1).Node, .int .i64 (q.1).State, .int .i64 (q.1).Count, .slice a1 (q.1).Ts.length c1, .int .i64 (q.1).L.X, .int .i64 (q.1).L.Y, .int .i64 (q.1).L.T, .int .i64 (q.1).Kind, .int .i64 (q.1).Node, .int .i64 (q.1).State, .int .i64 (q.1).Count, .slice a2 (q.1).Ts.length c2, .int .i64 (q.1).L.X, .int .i64 (q.1).L.Y, .int .i64 (q.1).L.T, .bool true] 68)).ext D2).ext d1).ext d2) (b := (w0.ext D1).heap.size) (z := #[.int .i64 q.1.Kind, .int .i64 q.1.Node, .int .i64 q.1.State, .int .i64 q.1.Count, .slice a1 q.1.Ts.length c1, .int .i64 q.1.L.X, .int .i64 q.1.L.Y, .int .i64 q.1.L.T, .int .i64 r.Kind, .int .i64 r.Node, .int .i64 r.State, .int .i64 r.Count, .slice a' r.Ts.length c', .int .i64 r.L.X, .int .i64 r.L.Y, .int .i64 r.L.T, .bool true]) (by (repeat (first | exact Like.refl _ _ | refine Like.ext ?_ _ | refine Like.alloc ?_ _ | refine Like.swap ?_ (by simp <;> omega) _ _))) (by (repeat (first | (refine heap_new _ _ ?_; focus (first | with_reducible rfl | (simp only [World.size_ext, World.size_alloc]; done))) | refine heap_ext1 ?_ | refine heap_alloc1 ?_)))).ext he
  clear t1 t2 g1 g2 hq hq' h1 h2
  go_wp2_with fail
  (refine wp_region_calm_ops [0, 1, 2, 3, 4, 5, 6, 7, 8, 9, 10, 11, 12, 13, 14, 15, 16, 17, 18, 19, 20, 21, 22] [] [] [23] (by kernel_rfl) (by kernel_rfl) (by simp only [List.filterMap_cons, List.filterMap_nil, List.getElem?_toArray, List.getElem?_cons_succ, List.getElem?_cons_zero]; try exact rfl) (by simp only [List.filterMap_cons, List.filterMap_nil, List.getElem?_toArray, List.getElem?_cons_succ, List.getElem?_cons_zero]; try exact rfl) (by simp only [List.filterMap_cons, List.filterMap_nil, List.getElem?_toArray, List.getElem?_cons_succ, List.getElem?_cons_zero]; try exact rfl) ?_; (repeat (first | (refine ql_plain rfl rfl ?_; intro K hK; go_big_quiet_op; go_big_quiet_on) | (refine ql_nilCheck rfl rfl rfl ?_; intro K hK; simp only [Act.put, List.setIfInBounds_toArray, List.set_cons_succ, List.set_cons_zero]; go_big_quiet_on) | (refine ql_call (fun _ => heq.out _ _ _ _ _ (hU1.out _ (by (repeat (first | exact Ext.refl _ | assumption | refine Ext.alloc ?_ _ | refine Ext.ext ?_ _ | refine Ext.drew ?_)))).rep (hU2.out _ (by (repeat (first | exact Ext.refl _ | assumption | refine Ext.alloc ?_ _ | refine Ext.ext ?_ _ | refine Ext.drew ?_)))).rep) rfl rfl Try.func15 rfl (by kernel_rfl) rfl ?_; intro K hK; simp only [Act.put, List.setIfInBounds_toArray, List.set_cons_succ, List.set_cons_zero]; go_big_quiet_on) | (refine ql_call (fun _ => heg.out _ _ _ (hV1.out _ (by (repeat (first | exact Ext.refl _ | assumption | refine Ext.alloc ?_ _ | refine Ext.ext ?_ _ | refine Ext.drew ?_)))) (hV2.out _ (by (repeat (first | exact Ext.refl _ | assumption | refine Ext.alloc ?_ _ | refine Ext.ext ?_ _ | refine Ext.drew ?_))))) rfl rfl Try.func49 rfl (by kernel_rfl) rfl ?_; intro K hK; simp only [Act.put, List.setIfInBounds_toArray, List.set_cons_succ, List.set_cons_zero]; go_big_quiet_on) | (refine ql_skip rfl ?_; intro K hK; simp only [Act.put, List.setIfInBounds_toArray, List.set_cons_succ, List.set_cons_zero]; go_big_quiet_on))); refine ql_nil ?_)
  refine mw0 ?_; (repeat (first | (refine pl_plain rfl rfl ?_; intro K hK; go_big_quiet_op; go_big_quiet_on) | (refine pl_nilCheck rfl rfl rfl ?_; intro K hK; simp only [Act.put, List.setIfInBounds_toArray, List.set_cons_succ, List.set_cons_zero]; go_big_quiet_on))); refine pl_nil ?_; rintro w1 ⟨d1, rfl⟩ -
  go_wp2; refine only_normal ?_
  go_wp2
  (refine bodyPost_ret (v := ?_) (by simp [results, Try.results28, go_sem]; rfl) rfl ?_)
  refine ⟨_, rfl, both_of (a := a1) (c := c1) (a' := a2) (c' := c2) rfl ?_ (hU1.out _ ?_) (hU2.out _ ?_), turned_of (O' := .cells #[.int .i64 (q.1).Kind, .int .i64 (q.1).Node, .int .i64 (q.1).State, .int .i64 (q.1).Count, .slice a1 (q.1).Ts.length c1, .int .i64 (q.1).L.X, .int .i64 (q.1).L.Y, .int .i64 (q.1).L.T, .int .i64 (q.1).Kind, .int .i64 (q.1).Node, .int .i64 (q.1).State, .int .i64 (q.1).Count, .slice a2 (q.1).Ts.length c2, .int .i64 (q.1).L.X, .int .i64 (q.1).L.Y, .int .i64 (q.1).L.T, .bool true] 68) ?_⟩ <;> (repeat (first | exact Ext.refl _ | assumption | refine Ext.alloc ?_ _ | refine Ext.ext ?_ _ | refine Ext.drew ?_))
set_option maxRecDepth 100000 in
set_option maxHeartbeats 4000000 in
theorem both_lose (w0 w : World) (M : Nat) (r : Rec) (h : ROk r) (hB : Both w0 w M r) :
    Calls Try.prog 28 #[.pointer (some ⟨M, 0, none⟩), .int .i64 1] w fun x w' => ∃ v, x = .returned v ∧ Both w0 w' M (over r) ∧ Turned M w w' := by
  obtain ⟨D1, D2, a, c, a', c', rfl, rfl, h1, h2⟩ := hB
  have heq : Hid (∀ w, Calls Try.prog 15 #[.agg #[.int .i64 r.Kind, .int .i64 r.Node, .int .i64 4, .int .i64 r.Count, .slice none 0 0, .int .i64 r.L.X, .int .i64 r.L.Y, .int .i64 r.L.T], .agg #[.int .i64 r.Kind, .int .i64 r.Node, .int .i64 4, .int .i64 r.Count, .slice none 0 0, .int .i64 r.L.X, .int .i64 r.L.Y, .int .i64 r.L.T]] w fun e w' => e = .returned (.bool true) ∧ Ext w w') := Lib.hid fun w => r_equal (over r) (over_ok h) none none 0 0 w (.inl rfl) (.inl rfl)
  have heg : Hid (∀ w, Calls Try.prog 49 #[.slice none 0 0, .slice none 0 0] w fun e w' => e = .returned (.bool true) ∧ Ext w w') := Lib.hid fun w => r_equalG [] (by simp) _ _ w (OwnG.none w 0).rep (OwnG.none w 0).rep
  clear h1 h2 h
  go_enter Try.func28, Try.ntmps28
  go_wp2_with fail
  (refine wp_region_calm_ops [0, 2, 3, 4, 5, 6, 7, 8, 9, 10, 11, 12, 13] [] [1] [14, 15, 16, 17] (by kernel_rfl) (by kernel_rfl) (by simp only [List.filterMap_cons, List.filterMap_nil, List.getElem?_toArray, List.getElem?_cons_succ, List.getElem?_cons_zero]; try exact rfl) (by simp only [List.filterMap_cons, List.filterMap_nil, List.getElem?_toArray, List.getElem?_cons_succ, List.getElem?_cons_zero]; try exact rfl) (by simp only [List.filterMap_cons, List.filterMap_nil, List.getElem?_toArray, List.getElem?_cons_succ, List.getElem?_cons_zero]; try exact rfl) ?_; (repeat (first | (refine ql_plain rfl rfl ?_; intro K hK; go_big_quiet_op; go_big_quiet_on) | (refine ql_nilCheck rfl rfl rfl ?_; intro K hK; simp only [Act.put, List.setIfInBounds_toArray, List.set_cons_succ, List.set_cons_zero]; go_big_quiet_on) | (refine ql_call (fun _ => (lose_any _ _ _ _ _ _ _ _ _ _ _)) rfl rfl Try.func45 rfl (by kernel_rfl) rfl ?_; intro K hK; simp only [Act.put, List.setIfInBounds_toArray, List.set_cons_succ, List.set_cons_zero]; go_big_quiet_on) | (refine ql_call (fun _ => (r_over _ _ _ _ _ _ _ _ _ _ _)) rfl rfl Try.func46 rfl (by kernel_rfl) rfl ?_; intro K hK; simp only [Act.put, List.setIfInBounds_toArray, List.set_cons_succ, List.set_cons_zero]; go_big_quiet_on) | (refine ql_skip rfl ?_; intro K hK; simp only [Act.put, List.setIfInBounds_toArray, List.set_cons_succ, List.set_cons_zero]; go_big_quiet_on))); refine ql_nil ?_)
  refine mw0 ?_; (repeat (first | (refine pl_plain rfl rfl ?_; intro K hK; go_big_quiet_op; go_big_quiet_on) | (refine pl_nilCheck rfl rfl rfl ?_; intro K hK; simp only [Act.put, List.setIfInBounds_toArray, List.set_cons_succ, List.set_cons_zero]; go_big_quiet_on))); refine pl_nil ?_; rintro w1 ⟨d1, rfl⟩ -
  go_wp2; refine only_normal ?_
  go_wp2_with fail
  (refine wp_region_calm_ops [0, 1, 2, 3, 4, 5, 6, 7, 8, 9, 10, 11, 12, 13, 14, 15, 16, 17, 18, 19, 20, 21, 22] [] [] [23] (by kernel_rfl) (by kernel_rfl) (by simp only [List.filterMap_cons, List.filterMap_nil, List.getElem?_toArray, List.getElem?_cons_succ, List.getElem?_cons_zero]; try exact rfl) (by simp only [List.filterMap_cons, List.filterMap_nil, List.getElem?_toArray, List.getElem?_cons_succ, List.getElem?_cons_zero]; try exact rfl) (by simp only [List.filterMap_cons, List.filterMap_nil, List.getElem?_toArray, List.getElem?_cons_succ, List.getElem?_cons_zero]; try exact rfl) ?_; (repeat (first | (refine ql_plain rfl rfl ?_; intro K hK; go_big_quiet_op; go_big_quiet_on) | (refine ql_nilCheck rfl rfl rfl ?_; intro K hK; simp only [Act.put, List.setIfInBounds_toArray, List.set_cons_succ, List.set_cons_zero]; go_big_quiet_on) | (refine ql_call (fun _ => heq.out _) rfl rfl Try.func15 rfl (by kernel_rfl) rfl ?_; intro K hK; simp only [Act.put, List.setIfInBounds_toArray, List.set_cons_succ, List.set_cons_zero]; go_big_quiet_on) | (refine ql_call (fun _ => heg.out _) rfl rfl Try.func49 rfl (by kernel_rfl) rfl ?_; intro K hK; simp only [Act.put, List.setIfInBounds_toArray, List.set_cons_succ, List.set_cons_zero]; go_big_quiet_on) | (refine ql_skip rfl ?_; intro K hK; simp only [Act.put, List.setIfInBounds_toArray, List.set_cons_succ, List.set_cons_zero]; go_big_quiet_on))); refine ql_nil ?_)
  refine mw0 ?_; (repeat (first | (refine pl_plain rfl rfl ?_; intro K hK; go_big_quiet_op; go_big_quiet_on) | (refine pl_nilCheck rfl rfl rfl ?_; intro K hK; simp only [Act.put, List.setIfInBounds_toArray, List.set_cons_succ, List.set_cons_zero]; go_big_quiet_on))); refine pl_nil ?_; rintro w1 ⟨d1, rfl⟩ -
  go_wp2; refine only_normal ?_
  go_wp2
  (refine bodyPost_ret (v := ?_) (by simp [results, Try.results28, go_sem]; rfl) rfl ?_)
  refine ⟨_, rfl, both_of (r := over r) (a := none) (c := 0) (a' := none) (c' := 0) rfl ?_ (.inl rfl) (.inl rfl), turned_of (O' := .cells #[.int .i64 ((over r)).Kind, .int .i64 ((over r)).Node, .int .i64 ((over r)).State, .int .i64 ((over r)).Count, .slice none ((over r)).Ts.length 0, .int .i64 ((over r)).L.X, .int .i64 ((over r)).L.Y, .int .i64 ((over r)).L.T, .int .i64 ((over r)).Kind, .int .i64 ((over r)).Node, .int .i64 ((over r)).State, .int .i64 ((over r)).Count, .slice none ((over r)).Ts.length 0, .int .i64 ((over r)).L.X, .int .i64 ((over r)).L.Y, .int .i64 ((over r)).L.T, .bool true] 68) ?_⟩ <;> (repeat (first | exact Ext.refl _ | assumption | refine Ext.alloc ?_ _ | refine Ext.ext ?_ _ | refine Ext.drew ?_))
end Go.Proofs.Ytendgmnbnnkpnaa.G
namespace Go.Proofs.Ytendgmnbnnkpnaa.G
open Go.RowKit
theorem TsO.turnS {w w' : World} {b : Nat} {z : Array Value} {a : Option Addr} {c : Nat} {ts : List Tch} (h : TsO w a c ts) (hl : Like (fun k => k = b) w w') (hb : w.heap[b]? = some (.cells z 76)) : TsO w' a c ts :=
  h.imp id (·.like2 (e' := 76) (by decide) (by decide) hl (fun k hk => ⟨z, _, hk ▸ hb⟩))
/-- a draw under the pair: the reader lies below it -/
theorem both_drawn {w0 w w' : World} {M S n at_ at2 : Nat} {r : Rec} (hB : Both w0 w M r) (hs : SrcAt w0 S n at_) (hd : Drawn w S n at2 w') : ∃ w1 at', Both w1 w' M r ∧ SrcAt w1 S n at' ∧ (∀ X, Ext X w0 → X.heap.size ≤ S → Ext X w1) := by
  have hlt := hs.lt
  obtain ⟨at', d, h1, h2, rfl⟩ := hd
  have hs1 : SrcAt (w0.setCell ⟨S, 1, none⟩ (.int .i64 at')) S n at' := by
    obtain ⟨⟨a, cap, hS, hl⟩, hle, hn⟩ := hs
    refine ⟨⟨a, cap, setCell_heap hS, ?_⟩, h2, hn⟩
    rcases hl with hl | ⟨b, off, ha, hne, hc⟩
    · exact .inl hl
    · refine .inr ⟨b, off, ha, hne, fun i hi => ?_⟩
      obtain ⟨x, x1, x2, hx⟩ := hc i hi
      refine ⟨x, x1, x2, ?_⟩
      simp only [World.cell?, setCell_heap_ne hne]; simpa only [World.cell?] using hx
  refine ⟨_, at', ?_, hs1, fun X hX hXS => hX.put hXS _⟩
  obtain ⟨⟨_, _, hSh, _⟩, _, _⟩ := hs
  obtain ⟨D1, D2, a, c, a', c', rfl, rfl, t1, t2⟩ := hB
  have hb := heap_some_ext (w' := ((w0.ext D1).alloc (.cells #[.int .i64 (r).Kind, .int .i64 (r).Node, .int .i64 (r).State, .int .i64 (r).Count, .slice a (r).Ts.length c, .int .i64 (r).L.X, .int .i64 (r).L.Y, .int .i64 (r).L.T, .int .i64 (r).Kind, .int .i64 (r).Node, .int .i64 (r).State, .int .i64 (r).Count, .slice a' (r).Ts.length c', .int .i64 (r).L.X, .int .i64 (r).L.Y, .int .i64 (r).L.T, .bool true] 68)).ext D2) hSh (by (repeat (first | exact Ext.refl _ | assumption | refine Ext.alloc ?_ _ | refine Ext.ext ?_ _ | refine Ext.drew ?_)))
  refine both_of (D1 := D1) (a := a) (c := c) (a' := a') (c' := c') (by simp) ?_ (TsO.ext (TsO.turnS t1 ((Like.refl (fun k => k = S) _).setCell rfl (.int .i64 at')) hb) (Ext.ext (Ext.refl _) d)) (TsO.ext (TsO.turnS t2 ((Like.refl (fun k => k = S) _).setCell rfl (.int .i64 at')) hb) (Ext.ext (Ext.refl _) d))
  rw [World.setCell_ext _ _ _ _ _ (by simp; omega), World.setCell_alloc_past _ _ _ _ (by simp; omega), World.setCell_ext _ _ _ _ _ hlt]
  (repeat (first | exact Ext.refl _ | assumption | refine Ext.alloc ?_ _ | refine Ext.ext ?_ _ | refine Ext.drew ?_))
/-- the pair, the reader and the events, while the law runs -/
structure Pl (w : World) (S n M : Nat) (a : Option Addr) (l : List Ev) (wr : World) : Prop where
  b : ∃ w0 at_ r, Ext w w0 ∧ Both w0 wr M r ∧ SrcAt w0 S n at_ ∧ Sound r ∧ Idle r
  e : l = [] ∨ ∃ b, a = some ⟨b, 0, none⟩ ∧ EvsAt wr b 0 l ∧ b ≠ M ∧ b ≠ S
  s : w.heap.size ≤ S
theorem Pl.ok {w wr : World} {S n M : Nat} {a : Option Addr} {l : List Ev} (h : Pl w S n M a l wr) : wr.cell? ⟨M, 16, none⟩ = some (.bool true) ∧ M < wr.heap.size := by
  obtain ⟨w0, at_, r, _, hb, _⟩ := h.b
  exact hb.ok
theorem Pl.ext {w wr : World} {S n M : Nat} {a : Option Addr} {l : List Ev} (h : Pl w S n M a l wr) : Ext w wr := by
  obtain ⟨w0, at_, r, he, hb, _⟩ := h.b
  exact he.trans hb.ext
theorem Pl.src {w wr : World} {S n M : Nat} {a : Option Addr} {l : List Ev} (h : Pl w S n M a l wr) : ∃ at_, SrcAt wr S n at_ := by
  obtain ⟨w0, at_, r, _, hb, hs, _⟩ := h.b
  exact ⟨at_, hs.ext hb.ext⟩
theorem Pl.draw {w wr w' : World} {S n M at2 : Nat} {a : Option Addr} {l : List Ev} (h : Pl w S n M a l wr) (hd : Drawn wr S n at2 w') : Pl w S n M a l w' := by
  obtain ⟨w0, at_, r, he, hb, hs, h1, h2⟩ := h.b
  obtain ⟨w1, at', hb', hs', hx⟩ := both_drawn hb hs hd
  refine ⟨⟨w1, at', r, hx _ he h.s, hb', hs', h1, h2⟩, ?_, h.s⟩
  rcases h.e with h3 | ⟨b, ha, hv, h3, h4⟩
  · exact .inl h3
  · exact .inr ⟨b, ha, hv.heap (fun hlt => drawn_block hd hlt h4), h3, h4⟩
theorem Pl.turn {w wr w' w0 : World} {S n M at_ : Nat} {a : Option Addr} {l : List Ev} {r : Rec} (h : Pl w S n M a l wr) (he : Ext w w0) (hb : Both w0 w' M r) (ht : Turned M wr w') (hs : SrcAt w0 S n at_) (h1 : Sound r) (h2 : Idle r) : Pl w S n M a l w' := by
  refine ⟨⟨w0, at_, r, he, hb, hs, h1, h2⟩, ?_, h.s⟩
  rcases h.e with h3 | ⟨b, ha, hv, h3, h4⟩
  · exact .inl h3
  · exact .inr ⟨b, ha, hv.heap (fun hlt => ht.2 b hlt h3), h3, h4⟩
theorem pl_feed (w wr : World) (S n M : Nat) (a : Option Addr) (l : List Ev) (e : Ev) (h : Pl w S n M a l wr) :
    Calls Try.prog 29 #[.pointer (some ⟨M, 0, none⟩), .agg #[.int .i64 (e).Kind, .int .i64 (e).ID, .int .i64 (e).X, .int .i64 (e).Y, .int .i64 (e).Time, .int .i64 (e).Wheel]] wr fun x w' => ∃ k va vn vc, x = .returned (.tuple #[.int .i64 k, .slice va vn vc]) ∧ Pl w S n M a l w' := by
  obtain ⟨w0, at_, r, he, hb, hs, h1, h2⟩ := h.b
  refine (both_feed w0 wr M r h1.ok h2 e hb).mono ?_
  rintro x w' ⟨va, vn, vc, rfl, hb', ht⟩
  exact ⟨_, va, vn, vc, rfl, h.turn he hb' ht hs (h1.feed e) (idle_feed h2 e)⟩
theorem pl_judge (w wr : World) (S n M : Nat) (a : Option Addr) (l : List Ev) (how : Int) (hw : 0 ≤ how ∧ how < 3) (h : Pl w S n M a l wr) :
    Calls Try.prog 28 #[.pointer (some ⟨M, 0, none⟩), .int .i64 how] wr fun x w' => ∃ v, x = .returned v ∧ Pl w S n M a l w' := by
  obtain ⟨w0, at_, r, he, hb, hs, h1, h2⟩ := h.b
  rcases (show how = 0 ∨ how = 1 ∨ how = 2 by omega) with rfl | rfl | rfl
  · refine (both_win w0 wr M r h1.ok h1.fresh hb).mono ?_
    rintro x w' ⟨v, rfl, hb', ht⟩
    exact ⟨_, rfl, h.turn he hb' ht hs h1.win (idle_win h2)⟩
  · refine (both_lose w0 wr M r h1.ok hb).mono ?_
    rintro x w' ⟨v, rfl, hb', ht⟩
    exact ⟨_, rfl, h.turn he hb' ht hs h1.over (idle_over r)⟩
  · refine (both_abort w0 wr M r h1.ok hb).mono ?_
    rintro x w' ⟨v, rfl, hb', ht⟩
    exact ⟨_, rfl, h.turn he hb' ht hs h1.abort (idle_abort r)⟩
end Go.Proofs.Ytendgmnbnnkpnaa.G
