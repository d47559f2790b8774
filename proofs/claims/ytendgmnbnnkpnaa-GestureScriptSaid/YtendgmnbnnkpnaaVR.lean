/- The law's pair of recognisers: feed. The law's pair of recognisers: victory. GestureRaw: the walk. -/
import Derived.Test.YtendgmnbnnkpnaaVO
import Derived.Test.YtendgmnbnnkpnaaVP
import Derived.Test.YtendgmnbnnkpnaaVQ
import Derived.Test.YtendgmnbnnkpnaaVA
import Derived.Test.YtendgmnbnnkpnaaVC
import Derived.Test.YtendgmnbnnkpnaaUB
import Derived.Laws.Bits128
import Derived.WalkKit
import Derived.WalkSpells
import Derived.WalkLawsBesides
import Derived.Deep.QuietTactic
import Derived.BigQuiet
import Derived.BigRegion
import Derived.Lib.Hide
import Derived.Deep.RegionWith
set_option linter.unusedSimpArgs false
set_option linter.unusedVariables false
namespace Go.Proofs.Ytendgmnbnnkpnaa.G
open Go.RowKit
/-- the pair lies at a block M: both are the recogniser r, and nothing has differed so far -/
def Both (w0 w : World) (M : Nat) (r : Rec) : Prop := ∃ D1 D2 a c a' c', M = w0.heap.size + D1.size ∧ w = ((w0.ext D1).alloc (.cells #[.int .i64 (r).Kind, .int .i64 (r).Node, .int .i64 (r).State, .int .i64 (r).Count, .slice a (r).Ts.length c, .int .i64 (r).L.X, .int .i64 (r).L.Y, .int .i64 (r).L.T, .int .i64 (r).Kind, .int .i64 (r).Node, .int .i64 (r).State, .int .i64 (r).Count, .slice a' (r).Ts.length c', .int .i64 (r).L.X, .int .i64 (r).L.Y, .int .i64 (r).L.T, .bool true] 68)).ext D2 ∧ TsO w a c r.Ts ∧ TsO w a' c' r.Ts
theorem both_of {w0 w : World} {M : Nat} {r : Rec} {D1 : Grow} {a a' : Option Addr} {c c' : Nat} (hM : M = w0.heap.size + D1.size) (he : Ext ((w0.ext D1).alloc (.cells #[.int .i64 (r).Kind, .int .i64 (r).Node, .int .i64 (r).State, .int .i64 (r).Count, .slice a (r).Ts.length c, .int .i64 (r).L.X, .int .i64 (r).L.Y, .int .i64 (r).L.T, .int .i64 (r).Kind, .int .i64 (r).Node, .int .i64 (r).State, .int .i64 (r).Count, .slice a' (r).Ts.length c', .int .i64 (r).L.X, .int .i64 (r).L.Y, .int .i64 (r).L.T, .bool true] 68)) w) (h1 : TsO w a c r.Ts) (h2 : TsO w a' c' r.Ts) : Both w0 w M r := by
  obtain ⟨D2, rfl⟩ := he
  exact ⟨D1, D2, a, c, a', c', hM, rfl, h1, h2⟩
/-- only the block M has turned -/
def Turned (M : Nat) (w w' : World) : Prop := w.heap.size ≤ w'.heap.size ∧ ∀ b, b < w.heap.size → b ≠ M → w'.heap[b]? = w.heap[b]?
theorem turned_of {w0 : World} {D1 D2 : Grow} {O O' : Obj} {w' : World} (he : Ext (((w0.ext D1).alloc O').ext D2) w') : Turned (w0.heap.size + D1.size) (((w0.ext D1).alloc O).ext D2) w' := by
  obtain ⟨d, rfl⟩ := he
  refine ⟨by simp, fun b hb hne => ?_⟩
  have hs : b < (((w0.ext D1).alloc O').ext D2).heap.size := by simpa using hb
  rw [World.heap_ext _ _ _ hs]
  have hm : b ≠ (w0.ext D1).heap.size := by simpa using hne
  simp only [World.ext, World.alloc, Array.getElem?_append, Array.getElem?_push, Array.size_push]
  simp only [World.ext] at hm
  rw [if_neg hm, if_neg hm]
theorem TsO.turnB {w w' : World} {b : Nat} {z : Array Value} {a : Option Addr} {c : Nat} {ts : List Tch} (h : TsO w a c ts) (hl : Like (fun k => k = b) w w') (hb : w.heap[b]? = some (.cells z 68)) : TsO w' a c ts :=
  h.imp id (·.like2 (e' := 68) (by decide) (by decide) hl (fun k hk => ⟨z, _, hk ▸ hb⟩))
theorem OwnG.turnT {w w' : World} {B b : Nat} {z : Array Value} {v : Value} {gs : List Ges} (h : OwnG w B v gs) (hl : Like (fun k => k = b) w w') (hb : w.heap[b]? = some (.cells z 26)) : OwnG w' B v gs :=
  ⟨ownsRow_like h.1 hl (own_ne' h.1 hb (by decide)), h.2⟩
theorem rfeed_mk (r : Rec) (e : Ev) (hr : ROk r) (hi : Idle r) (a : Option Addr) (cap : Nat) (w : World) (hrep : TsO w a cap r.Ts) :
    Calls Try.prog 50 #[.agg #[.int .i64 (r).Kind, .int .i64 (r).Node, .int .i64 (r).State, .int .i64 (r).Count, .slice a (r).Ts.length cap, .int .i64 (r).L.X, .int .i64 (r).L.Y, .int .i64 (r).L.T], .agg #[.int .i64 (e).Kind, .int .i64 (e).ID, .int .i64 (e).X, .int .i64 (e).Y, .int .i64 (e).Time, .int .i64 (e).Wheel]] w fun x w' => ∃ u, x = .returned u ∧ Ext w w' ∧ FeedF (feed r e) u w' ∧ ∀ b, u.blk = some b → w.heap.size ≤ b ∧ b < w'.heap.size := by
  refine (r_feed r hr hi e a cap w hrep).mono ?_
  rintro x w' ⟨a', c', va, vn, vc, rfl, he, h1, h2⟩
  exact ⟨_, rfl, he, ⟨a', c', va, vn, vc, rfl, h1, ownsRow_base h2.1 (Nat.zero_le _), h2.2⟩, fun b hb => by cases hb⟩
theorem feed_len (r : Rec) (e : Ev) : (feed r e).2.2.length ≤ 2 := by
  have hf : ∀ r : Rec, (fail r).2.2.length ≤ 2 := fun r => by simp [fail]
  have hsu : ∀ (r : Rec) s a, (succeed r s a).2.2.length ≤ 2 := fun r s a => by unfold succeed; split <;> simp
  have hp : (process r e).2.2.length ≤ 2 := by
    unfold process
    split
    · simp
    · split
      · split
        · unfold down; repeat' (first | split | exact hf _ | simp)
        · simp
      · split
        · simp
        · split
          · split
            · unfold abort; split <;> simp
            · exact hf _
          · dsimp only
            split
            · unfold still; repeat' (first | split | exact hf _ | exact hsu _ _ _ | simp)
            · split
              · unfold throw_; repeat' (first | split | exact hf _ | exact hsu _ _ _ | simp)
              · unfold slide; repeat' (first | split | exact hf _ | simp)
  unfold feed
  repeat' (first | split | exact hf _ | exact hp | exact hsu _ _ _ | simp)
set_option maxRecDepth 100000 in
set_option maxHeartbeats 4000000 in
theorem both_feed (w0 w : World) (M : Nat) (r : Rec) (h : ROk r) (hi : Idle r) (e : Ev) (hB : Both w0 w M r) :
    Calls Try.prog 29 #[.pointer (some ⟨M, 0, none⟩), .agg #[.int .i64 (e).Kind, .int .i64 (e).ID, .int .i64 (e).X, .int .i64 (e).Y, .int .i64 (e).Time, .int .i64 (e).Wheel]] w fun x w' => ∃ va vn vc, x = .returned (.tuple #[.int .i64 (feed r e).2.1, .slice va vn vc]) ∧ Both w0 w' M (feed r e).1 ∧ Turned M w w' := by
  obtain ⟨D1, D2, a, c, a', c', rfl, rfl, h1, h2⟩ := hB
  have hq := fun w a c h' => feed_mk r e h a c w h'
  have hq' := fun w a c h' => rfeed_mk r e h hi a c w h'
  have hqk : ROk (feed r e).1 := feed_ok h
  have hlen := feed_len r e
  obtain ⟨q, hqd⟩ : ∃ q, q = feed r e := ⟨_, rfl⟩
  rw [← hqd] at hq hq' hqk hlen ⊢
  have heq := Lib.hid fun a a' c c' w hr hr' => r_equal q.1 hqk a a' c c' w hr hr'
  have heg := Lib.hid fun v v' w hr hr' => r_equalG q.2.2 hlen v v' w hr hr'
  replace hq := Lib.hid hq
  replace hq' := Lib.hid hq'
  replace h1 := Lib.hid h1
  replace h2 := Lib.hid h2
  clear hqd h hi hlen hqk
  go_enter Try.func29, Try.ntmps29
  go_wp2
  (refine wp_region_segs (fun i => if i = 5 then some (FeedF q, FeedS q) else none) [([0, 1, 2, 3, 4], .m, 5), ([6, 7], .m, 10)] [] [8, 9] [11, 12, 13] (by kernel_rfl) (by kernel_rfl) (by simp only [List.map_cons, List.map_nil, List.filterMap_cons, List.filterMap_nil, List.getElem?_toArray, List.getElem?_cons_succ, List.getElem?_cons_zero]; try exact rfl) (by simp only [List.filterMap_cons, List.filterMap_nil, List.getElem?_toArray, List.getElem?_cons_succ, List.getElem?_cons_zero]; try exact rfl) (by simp only [List.filterMap_cons, List.filterMap_nil, List.getElem?_toArray, List.getElem?_cons_succ, List.getElem?_cons_zero]; try exact rfl) (by simp only [List.filterMap_cons, List.filterMap_nil, List.getElem?_toArray, List.getElem?_cons_succ, List.getElem?_cons_zero]; try exact rfl) (by decide) ?_)
  (refine sg_m ?_; (repeat (first | (refine ql_plain rfl rfl ?_; intro K hK; go_big_quiet_op; go_big_quiet_on) | (refine ql_nilCheck rfl rfl rfl ?_; intro K hK; simp only [Act.put, List.setIfInBounds_toArray, List.set_cons_succ, List.set_cons_zero]; go_big_quiet_on) | fail | (refine ql_skip rfl ?_; intro K hK; simp only [Act.put, List.setIfInBounds_toArray, List.set_cons_succ, List.set_cons_zero]; go_big_quiet_on))); refine ql_nil ?_)
  (refine sg_call (f := 20) (FeedF q) (FeedS q) rfl (FeedF.shp q) (FeedF.stable q) (fun d => hq.out _ _ _ (h1.out.ext (by (repeat (first | exact Ext.refl _ | assumption | refine Ext.alloc ?_ _ | refine Ext.ext ?_ _ | refine Ext.drew ?_)))).rep) (by simp only [List.getElem?_toArray, List.getElem?_cons_succ, List.getElem?_cons_zero]; try exact rfl) rfl rfl Try.func20 rfl (by kernel_rfl) rfl ?_; intro u hu hS K hK; obtain ⟨a1, c1, va1, vn1, vc1, rfl⟩ := hS; simp only [Act.put, List.setIfInBounds_toArray, List.set_cons_succ, List.set_cons_zero]; refine hK _ ?_; clear hK K)
  (refine sg_m ?_; (repeat (first | (refine ql_plain rfl rfl ?_; intro K hK; go_big_quiet_op; go_big_quiet_on) | (refine ql_nilCheck rfl rfl rfl ?_; intro K hK; simp only [Act.put, List.setIfInBounds_toArray, List.set_cons_succ, List.set_cons_zero]; go_big_quiet_on) | fail | (refine ql_skip rfl ?_; intro K hK; simp only [Act.put, List.setIfInBounds_toArray, List.set_cons_succ, List.set_cons_zero]; go_big_quiet_on))); refine ql_nil ?_)
  (refine sg_ptr (.cells #[.int .i64 0, .int .i64 0, .int .i64 0, .int .i64 0, .slice none 0 0, .int .i64 0, .int .i64 0, .int .i64 0] 26) rfl (by simp only [List.getElem?_toArray, List.getElem?_cons_succ, List.getElem?_cons_zero]; try exact rfl) rfl rfl (fun d => by go_simp) ?_; intro b1 hb1l hb1n K hK; simp only [Act.put, List.setIfInBounds_toArray, List.set_cons_succ, List.set_cons_zero]; refine hK _ ?_; clear hK K)
  (refine sg_last ?_; (repeat (first | (refine ql_plain rfl rfl ?_; intro K hK; go_big_quiet_op; go_big_quiet_on) | (refine ql_nilCheck rfl rfl rfl ?_; intro K hK; simp only [Act.put, List.setIfInBounds_toArray, List.set_cons_succ, List.set_cons_zero]; go_big_quiet_on) | fail | (refine ql_skip rfl ?_; intro K hK; simp only [Act.put, List.setIfInBounds_toArray, List.set_cons_succ, List.set_cons_zero]; go_big_quiet_on))); refine ql_nil ?_; (repeat (first | (refine pl_plain rfl rfl ?_; intro K hK; go_big_quiet_op; go_big_quiet_on) | (refine pl_nilCheck rfl rfl rfl ?_; intro K hK; simp only [Act.put, List.setIfInBounds_toArray, List.set_cons_succ, List.set_cons_zero]; go_big_quiet_on))); refine pl_nil ?_)
  rintro w1 he1 ⟨⟨_, hf1⟩, hf2⟩
  obtain ⟨x, y, rfl, rfl⟩ := he1.split hf2 hb1l
  have hT1 := Lib.hid (FeedF.use hf1).1
  have hG1 := Lib.hid (FeedF.use hf1).2
  clear hf1 hf2 hb1l hb1n he1
  go_wp2; refine only_normal ?_
  go_wp2
  (refine wp_region_segs (fun i => if i = 5 then some (FeedF q, FeedS q) else none) [([0, 1, 2, 3, 4], .m, 5), ([6, 7], .m, 10)] [] [8, 9] [11, 12, 13] (by kernel_rfl) (by kernel_rfl) (by simp only [List.map_cons, List.map_nil, List.filterMap_cons, List.filterMap_nil, List.getElem?_toArray, List.getElem?_cons_succ, List.getElem?_cons_zero]; try exact rfl) (by simp only [List.filterMap_cons, List.filterMap_nil, List.getElem?_toArray, List.getElem?_cons_succ, List.getElem?_cons_zero]; try exact rfl) (by simp only [List.filterMap_cons, List.filterMap_nil, List.getElem?_toArray, List.getElem?_cons_succ, List.getElem?_cons_zero]; try exact rfl) (by simp only [List.filterMap_cons, List.filterMap_nil, List.getElem?_toArray, List.getElem?_cons_succ, List.getElem?_cons_zero]; try exact rfl) (by decide) ?_)
  (refine sg_m ?_; (repeat (first | (refine ql_plain rfl rfl ?_; intro K hK; go_big_quiet_op; go_big_quiet_on) | (refine ql_nilCheck rfl rfl rfl ?_; intro K hK; simp only [Act.put, List.setIfInBounds_toArray, List.set_cons_succ, List.set_cons_zero]; go_big_quiet_on) | fail | (refine ql_skip rfl ?_; intro K hK; simp only [Act.put, List.setIfInBounds_toArray, List.set_cons_succ, List.set_cons_zero]; go_big_quiet_on))); refine ql_nil ?_)
  (refine sg_call (f := 50) (FeedF q) (FeedS q) rfl (FeedF.shp q) (FeedF.stable q) (fun d => hq'.out _ _ _ (h2.out.ext (by (repeat (first | exact Ext.refl _ | assumption | refine Ext.alloc ?_ _ | refine Ext.ext ?_ _ | refine Ext.drew ?_))))) (by simp only [List.getElem?_toArray, List.getElem?_cons_succ, List.getElem?_cons_zero]; try exact rfl) rfl rfl Try.func50 rfl (by kernel_rfl) rfl ?_; intro u hu hS K hK; obtain ⟨a2, c2, va2, vn2, vc2, rfl⟩ := hS; simp only [Act.put, List.setIfInBounds_toArray, List.set_cons_succ, List.set_cons_zero]; refine hK _ ?_; clear hK K)
  (refine sg_m ?_; (repeat (first | (refine ql_plain rfl rfl ?_; intro K hK; go_big_quiet_op; go_big_quiet_on) | (refine ql_nilCheck rfl rfl rfl ?_; intro K hK; simp only [Act.put, List.setIfInBounds_toArray, List.set_cons_succ, List.set_cons_zero]; go_big_quiet_on) | fail | (refine ql_skip rfl ?_; intro K hK; simp only [Act.put, List.setIfInBounds_toArray, List.set_cons_succ, List.set_cons_zero]; go_big_quiet_on))); refine ql_nil ?_)
  (refine sg_ptr (.cells #[.int .i64 0, .int .i64 0, .int .i64 0, .int .i64 0, .slice none 0 0, .int .i64 0, .int .i64 0, .int .i64 0] 26) rfl (by simp only [List.getElem?_toArray, List.getElem?_cons_succ, List.getElem?_cons_zero]; try exact rfl) rfl rfl (fun d => by go_simp) ?_; intro b2 hb2l hb2n K hK; simp only [Act.put, List.setIfInBounds_toArray, List.set_cons_succ, List.set_cons_zero]; refine hK _ ?_; clear hK K)
  (refine sg_last ?_; (repeat (first | (refine ql_plain rfl rfl ?_; intro K hK; go_big_quiet_op; go_big_quiet_on) | (refine ql_nilCheck rfl rfl rfl ?_; intro K hK; simp only [Act.put, List.setIfInBounds_toArray, List.set_cons_succ, List.set_cons_zero]; go_big_quiet_on) | fail | (refine ql_skip rfl ?_; intro K hK; simp only [Act.put, List.setIfInBounds_toArray, List.set_cons_succ, List.set_cons_zero]; go_big_quiet_on))); refine ql_nil ?_; (repeat (first | (refine pl_plain rfl rfl ?_; intro K hK; go_big_quiet_op; go_big_quiet_on) | (refine pl_nilCheck rfl rfl rfl ?_; intro K hK; simp only [Act.put, List.setIfInBounds_toArray, List.set_cons_succ, List.set_cons_zero]; go_big_quiet_on))); refine pl_nil ?_)
  rintro w1 he1 ⟨⟨_, hf1⟩, hf2⟩
  obtain ⟨x2, y2, rfl, rfl⟩ := he1.split hf2 hb2l
  have hT2 := Lib.hid (FeedF.use hf1).1
  have hG2 := Lib.hid (FeedF.use hf1).2
  clear hf1 hf2 hb2l hb2n he1
  have hU1 := Lib.hid fun w' (he : Ext (((((((w0.ext D1).alloc (.cells #[.int .i64 (r).Kind, .int .i64 (r).Node, .int .i64 (r).State, .int .i64 (r).Count, .slice a (r).Ts.length c, .int .i64 (r).L.X, .int .i64 (r).L.Y, .int .i64 (r).L.T, .int .i64 (r).Kind, .int .i64 (r).Node, .int .i64 (r).State, .int .i64 (r).Count, .slice a' (r).Ts.length c', .int .i64 (r).L.X, .int .i64 (r).L.Y, .int .i64 (r).L.T, .bool true] 68)).ext D2).alloc (.cells #[.int .i64 (e).Kind, .int .i64 (e).ID, .int .i64 (e).X, .int .i64 (e).Y, .int .i64 (e).Time, .int .i64 (e).Wheel] 44)).ext x).alloc (.cells #[.int .i64 (q.1).Kind, .int .i64 (q.1).Node, .int .i64 (q.1).State, .int .i64 (q.1).Count, .slice a1 (q.1).Ts.length c1, .int .i64 (q.1).L.X, .int .i64 (q.1).L.Y, .int .i64 (q.1).L.T] 26)).ext y) w') => (TsO.turn hT1.out (b := (((((w0.ext D1).alloc (.cells #[.int .i64 (r).Kind, .int .i64 (r).Node, .int .i64 (r).State, .int .i64 (r).Count, .slice a (r).Ts.length c, .int .i64 (r).L.X, .int .i64 (r).L.Y, .int .i64 (r).L.T, .int .i64 (r).Kind, .int .i64 (r).Node, .int .i64 (r).State, .int .i64 (r).Count, .slice a' (r).Ts.length c', .int .i64 (r).L.X, .int .i64 (r).L.Y, .int .i64 (r).L.T, .bool true] 68)).ext D2).alloc (.cells #[.int .i64 (e).Kind, .int .i64 (e).ID, .int .i64 (e).X, .int .i64 (e).Y, .int .i64 (e).Time, .int .i64 (e).Wheel] 44)).ext x).heap.size) (z := #[.int .i64 0, .int .i64 0, .int .i64 0, .int .i64 0, .slice none 0 0, .int .i64 0, .int .i64 0, .int .i64 0]) (by (repeat (first | exact Like.refl _ _ | refine Like.ext ?_ _ | refine Like.alloc ?_ _ | refine Like.swap ?_ (by simp <;> omega) _ _))) (by (repeat (first | (refine heap_new _ _ ?_; focus (first | with_reducible rfl | (simp only [World.size_ext, World.size_alloc]; done))) | refine heap_ext1 ?_ | refine heap_alloc1 ?_)))).ext he
  have hV1 := Lib.hid fun w' (he : Ext (((((((w0.ext D1).alloc (.cells #[.int .i64 (r).Kind, .int .i64 (r).Node, .int .i64 (r).State, .int .i64 (r).Count, .slice a (r).Ts.length c, .int .i64 (r).L.X, .int .i64 (r).L.Y, .int .i64 (r).L.T, .int .i64 (r).Kind, .int .i64 (r).Node, .int .i64 (r).State, .int .i64 (r).Count, .slice a' (r).Ts.length c', .int .i64 (r).L.X, .int .i64 (r).L.Y, .int .i64 (r).L.T, .bool true] 68)).ext D2).alloc (.cells #[.int .i64 (e).Kind, .int .i64 (e).ID, .int .i64 (e).X, .int .i64 (e).Y, .int .i64 (e).Time, .int .i64 (e).Wheel] 44)).ext x).alloc (.cells #[.int .i64 (q.1).Kind, .int .i64 (q.1).Node, .int .i64 (q.1).State, .int .i64 (q.1).Count, .slice a1 (q.1).Ts.length c1, .int .i64 (q.1).L.X, .int .i64 (q.1).L.Y, .int .i64 (q.1).L.T] 26)).ext y) w') => (OwnG.turnT hG1.out (b := (((((w0.ext D1).alloc (.cells #[.int .i64 (r).Kind, .int .i64 (r).Node, .int .i64 (r).State, .int .i64 (r).Count, .slice a (r).Ts.length c, .int .i64 (r).L.X, .int .i64 (r).L.Y, .int .i64 (r).L.T, .int .i64 (r).Kind, .int .i64 (r).Node, .int .i64 (r).State, .int .i64 (r).Count, .slice a' (r).Ts.length c', .int .i64 (r).L.X, .int .i64 (r).L.Y, .int .i64 (r).L.T, .bool true] 68)).ext D2).alloc (.cells #[.int .i64 (e).Kind, .int .i64 (e).ID, .int .i64 (e).X, .int .i64 (e).Y, .int .i64 (e).Time, .int .i64 (e).Wheel] 44)).ext x).heap.size) (z := #[.int .i64 0, .int .i64 0, .int .i64 0, .int .i64 0, .slice none 0 0, .int .i64 0, .int .i64 0, .int .i64 0]) (by (repeat (first | exact Like.refl _ _ | refine Like.ext ?_ _ | refine Like.alloc ?_ _ | refine Like.swap ?_ (by simp <;> omega) _ _))) (by (repeat (first | (refine heap_new _ _ ?_; focus (first | with_reducible rfl | (simp only [World.size_ext, World.size_alloc]; done))) | refine heap_ext1 ?_ | refine heap_alloc1 ?_)))).rep.ext he
  have hU2 := Lib.hid fun w' (he : Ext ((((((((((w0.ext D1).alloc (.cells #[.int .i64 (r).Kind, .int .i64 (r).Node, .int .i64 (r).State, .int .i64 (r).Count, .slice a (r).Ts.length c, .int .i64 (r).L.X, .int .i64 (r).L.Y, .int .i64 (r).L.T, .int .i64 (r).Kind, .int .i64 (r).Node, .int .i64 (r).State, .int .i64 (r).Count, .slice a' (r).Ts.length c', .int .i64 (r).L.X, .int .i64 (r).L.Y, .int .i64 (r).L.T, .bool true] 68)).ext D2).alloc (.cells #[.int .i64 (e).Kind, .int .i64 (e).ID, .int .i64 (e).X, .int .i64 (e).Y, .int .i64 (e).Time, .int .i64 (e).Wheel] 44)).ext x).alloc (.cells #[.int .i64 (q.1).Kind, .int .i64 (q.1).Node, .int .i64 (q.1).State, .int .i64 (q.1).Count, .slice a1 (q.1).Ts.length c1, .int .i64 (q.1).L.X, .int .i64 (q.1).L.Y, .int .i64 (q.1).L.T] 26)).ext y).ext x2).alloc (.cells #[.int .i64 (q.1).Kind, .int .i64 (q.1).Node, .int .i64 (q.1).State, .int .i64 (q.1).Count, .slice a2 (q.1).Ts.length c2, .int .i64 (q.1).L.X, .int .i64 (q.1).L.Y, .int .i64 (q.1).L.T] 26)).ext y2) w') => (TsO.turn hT2.out (b := ((((((((w0.ext D1).alloc (.cells #[.int .i64 (r).Kind, .int .i64 (r).Node, .int .i64 (r).State, .int .i64 (r).Count, .slice a (r).Ts.length c, .int .i64 (r).L.X, .int .i64 (r).L.Y, .int .i64 (r).L.T, .int .i64 (r).Kind, .int .i64 (r).Node, .int .i64 (r).State, .int .i64 (r).Count, .slice a' (r).Ts.length c', .int .i64 (r).L.X, .int .i64 (r).L.Y, .int .i64 (r).L.T, .bool true] 68)).ext D2).alloc (.cells #[.int .i64 (e).Kind, .int .i64 (e).ID, .int .i64 (e).X, .int .i64 (e).Y, .int .i64 (e).Time, .int .i64 (e).Wheel] 44)).ext x).alloc (.cells #[.int .i64 (q.1).Kind, .int .i64 (q.1).Node, .int .i64 (q.1).State, .int .i64 (q.1).Count, .slice a1 (q.1).Ts.length c1, .int .i64 (q.1).L.X, .int .i64 (q.1).L.Y, .int .i64 (q.1).L.T] 26)).ext y).ext x2).heap.size) (z := #[.int .i64 0, .int .i64 0, .int .i64 0, .int .i64 0, .slice none 0 0, .int .i64 0, .int .i64 0, .int .i64 0]) (by (repeat (first | exact Like.refl _ _ | refine Like.ext ?_ _ | refine Like.alloc ?_ _ | refine Like.swap ?_ (by simp <;> omega) _ _))) (by (repeat (first | (refine heap_new _ _ ?_; focus (first | with_reducible rfl | (simp only [World.size_ext, World.size_alloc]; done))) | refine heap_ext1 ?_ | refine heap_alloc1 ?_)))).ext he
  have hV2 := Lib.hid fun w' (he : Ext ((((((((((w0.ext D1).alloc (.cells #[.int .i64 (r).Kind, .int .i64 (r).Node, .int .i64 (r).State, .int .i64 (r).Count, .slice a (r).Ts.length c, .int .i64 (r).L.X, .int .i64 (r).L.Y, .int .i64 (r).L.T, .int .i64 (r).Kind, .int .i64 (r).Node, .int .i64 (r).State, .int .i64 (r).Count, .slice a' (r).Ts.length c', .int .i64 (r).L.X, .int .i64 (r).L.Y, .int .i64 (r).L.T, .bool true] 68)).ext D2).alloc (.cells #[.int .i64 (e).Kind, .int .i64 (e).ID, .int .i64 (e).X, .int .i64 (e).Y, .int .i64 (e).Time, .int .i64 (e).Wheel] 44)).ext x).alloc (.cells #[.int .i64 (q.1).Kind, .int .i64 (q.1).Node, .int .i64 (q.1).State, .int .i64 (q.1).Count, .slice a1 (q.1).Ts.length c1, .int .i64 (q.1).L.X, .int .i64 (q.1).L.Y, .int .i64 (q.1).L.T] 26)).ext y).ext x2).alloc (.cells #[.int .i64 (q.1).Kind, .int .i64 (q.1).Node, .int .i64 (q.1).State, .int .i64 (q.1).Count, .slice a2 (q.1).Ts.length c2, .int .i64 (q.1).L.X, .int .i64 (q.1).L.Y, .int .i64 (q.1).L.T] 26)).ext y2) w') => (OwnG.turnT hG2.out (b := ((((((((w0.ext D1).alloc (.cells #[.int .i64 (r).Kind, .int .i64 (r).Node, .int .i64 (r).State, .int .i64 (r).Count, .slice a (r).Ts.length c, .int .i64 (r).L.X, .int .i64 (r).L.Y, .int .i64 (r).L.T, .int .i64 (r).Kind, .int .i64 (r).Node, .int .i64 (r).State, .int .i64 (r).Count, .slice a' (r).Ts.length c', .int .i64 (r).L.X, .int .i64 (r).L.Y, .int .i64 (r).L.T, .bool true] 68)).ext D2).alloc (.cells #[.int .i64 (e).Kind, .int .i64 (e).ID, .int .i64 (e).X, .int .i64 (e).Y, .int .i64 (e).Time, .int .i64 (e).Wheel] 44)).ext x).alloc (.cells #[.int .i64 (q.1).Kind, .int .i64 (q.1).Node, .int .i64 (q.1).State, .int .i64 (q.1).Count, .slice a1 (q.1).Ts.length c1, .int .i64 (q.1).L.X, .int .i64 (q.1).L.Y, .int .i64 (q.1).L.T] 26)).ext y).ext x2).heap.size) (z := #[.int .i64 0, .int .i64 0, .int .i64 0, .int .i64 0, .slice none 0 0, .int .i64 0, .int .i64 0, .int .i64 0]) (by (repeat (first | exact Like.refl _ _ | refine Like.ext ?_ _ | refine Like.alloc ?_ _ | refine Like.swap ?_ (by simp <;> omega) _ _))) (by (repeat (first | (refine heap_new _ _ ?_; focus (first | with_reducible rfl | (simp only [World.size_ext, World.size_alloc]; done))) | refine heap_ext1 ?_ | refine heap_alloc1 ?_)))).rep.ext he
  clear hT1 hG1 hT2 hG2 hq hq' h1 h2
  go_wp2; refine only_normal ?_
  go_wp2_with fail
  refine Calls.mono (heq.out _ _ _ _ _ (hU1.out _ ?_).rep (hU2.out _ ?_).rep) ?_
  focus (repeat (first | exact Ext.refl _ | assumption | refine Ext.alloc ?_ _ | refine Ext.ext ?_ _ | refine Ext.drew ?_))
  focus (repeat (first | exact Ext.refl _ | assumption | refine Ext.alloc ?_ _ | refine Ext.ext ?_ _ | refine Ext.drew ?_))
  rintro _ _ ⟨rfl, d5, rfl⟩
  go_wp2_with fail
  refine Calls.mono (heg.out _ _ _ (hV1.out _ ?_) (hV2.out _ ?_)) ?_
  focus (repeat (first | exact Ext.refl _ | assumption | refine Ext.alloc ?_ _ | refine Ext.ext ?_ _ | refine Ext.drew ?_))
  focus (repeat (first | exact Ext.refl _ | assumption | refine Ext.alloc ?_ _ | refine Ext.ext ?_ _ | refine Ext.drew ?_))
  rintro _ _ ⟨rfl, d6, rfl⟩
  go_wp2
  go_region
  go_wp2
  (refine bodyPost_ret (v := ?_) (by simp [results, Try.results29, go_sem]; rfl) rfl ?_)
  refine ⟨va2, vn2, vc2, rfl, both_of (a := a1) (c := c1) (a' := a2) (c' := c2) rfl ?_ ?_ ?_, turned_of (O' := .cells #[.int .i64 (q.1).Kind, .int .i64 (q.1).Node, .int .i64 (q.1).State, .int .i64 (q.1).Count, .slice a1 (q.1).Ts.length c1, .int .i64 (q.1).L.X, .int .i64 (q.1).L.Y, .int .i64 (q.1).L.T, .int .i64 (q.1).Kind, .int .i64 (q.1).Node, .int .i64 (q.1).State, .int .i64 (q.1).Count, .slice a2 (q.1).Ts.length c2, .int .i64 (q.1).L.X, .int .i64 (q.1).L.Y, .int .i64 (q.1).L.T, .bool true] 68) ?_⟩
  · (repeat (first | exact Ext.refl _ | assumption | refine Ext.alloc ?_ _ | refine Ext.ext ?_ _ | refine Ext.drew ?_))
  · refine TsO.ext (TsO.turnB (hU1.out ((((((((((w0.ext D1).alloc (.cells #[.int .i64 (r).Kind, .int .i64 (r).Node, .int .i64 (r).State, .int .i64 (r).Count, .slice a (r).Ts.length c, .int .i64 (r).L.X, .int .i64 (r).L.Y, .int .i64 (r).L.T, .int .i64 (r).Kind, .int .i64 (r).Node, .int .i64 (r).State, .int .i64 (r).Count, .slice a' (r).Ts.length c', .int .i64 (r).L.X, .int .i64 (r).L.Y, .int .i64 (r).L.T, .bool true] 68)).ext D2).alloc (.cells #[.int .i64 (e).Kind, .int .i64 (e).ID, .int .i64 (e).X, .int .i64 (e).Y, .int .i64 (e).Time, .int .i64 (e).Wheel] 44)).ext x).alloc (.cells #[.int .i64 (q.1).Kind, .int .i64 (q.1).Node, .int .i64 (q.1).State, .int .i64 (q.1).Count, .slice a1 (q.1).Ts.length c1, .int .i64 (q.1).L.X, .int .i64 (q.1).L.Y, .int .i64 (q.1).L.T] 26)).ext y).ext x2).alloc (.cells #[.int .i64 (q.1).Kind, .int .i64 (q.1).Node, .int .i64 (q.1).State, .int .i64 (q.1).Count, .slice a2 (q.1).Ts.length c2, .int .i64 (q.1).L.X, .int .i64 (q.1).L.Y, .int .i64 (q.1).L.T] 26)).ext y2) (by (repeat (first | exact Ext.refl _ | assumption | refine Ext.alloc ?_ _ | refine Ext.ext ?_ _ | refine Ext.drew ?_)))) (w' := ((((((((((w0.ext D1).alloc (.cells #[.int .i64 (q.1).Kind, .int .i64 (q.1).Node, .int .i64 (q.1).State, .int .i64 (q.1).Count, .slice a1 (q.1).Ts.length c1, .int .i64 (q.1).L.X, .int .i64 (q.1).L.Y, .int .i64 (q.1).L.T, .int .i64 (q.1).Kind, .int .i64 (q.1).Node, .int .i64 (q.1).State, .int .i64 (q.1).Count, .slice a2 (q.1).Ts.length c2, .int .i64 (q.1).L.X, .int .i64 (q.1).L.Y, .int .i64 (q.1).L.T, .bool true] 68)).ext D2).alloc (.cells #[.int .i64 (e).Kind, .int .i64 (e).ID, .int .i64 (e).X, .int .i64 (e).Y, .int .i64 (e).Time, .int .i64 (e).Wheel] 44)).ext x).alloc (.cells #[.int .i64 (q.1).Kind, .int .i64 (q.1).Node, .int .i64 (q.1).State, .int .i64 (q.1).Count, .slice a1 (q.1).Ts.length c1, .int .i64 (q.1).L.X, .int .i64 (q.1).L.Y, .int .i64 (q.1).L.T] 26)).ext y).ext x2).alloc (.cells #[.int .i64 (q.1).Kind, .int .i64 (q.1).Node, .int .i64 (q.1).State, .int .i64 (q.1).Count, .slice a2 (q.1).Ts.length c2, .int .i64 (q.1).L.X, .int .i64 (q.1).L.Y, .int .i64 (q.1).L.T] 26)).ext y2)) (b := (w0.ext D1).heap.size) (z := #[.int .i64 (r).Kind, .int .i64 (r).Node, .int .i64 (r).State, .int .i64 (r).Count, .slice a (r).Ts.length c, .int .i64 (r).L.X, .int .i64 (r).L.Y, .int .i64 (r).L.T, .int .i64 (r).Kind, .int .i64 (r).Node, .int .i64 (r).State, .int .i64 (r).Count, .slice a' (r).Ts.length c', .int .i64 (r).L.X, .int .i64 (r).L.Y, .int .i64 (r).L.T, .bool true]) (by (repeat (first | exact Like.refl _ _ | refine Like.ext ?_ _ | refine Like.alloc ?_ _ | refine Like.swap ?_ (by simp <;> omega) _ _))) (by (repeat (first | (refine heap_new _ _ ?_; focus (first | with_reducible rfl | (simp only [World.size_ext, World.size_alloc]; done))) | refine heap_ext1 ?_ | refine heap_alloc1 ?_)))) ?_
    (repeat (first | exact Ext.refl _ | assumption | refine Ext.alloc ?_ _ | refine Ext.ext ?_ _ | refine Ext.drew ?_))
  · refine TsO.ext (TsO.turnB (hU2.out ((((((((((w0.ext D1).alloc (.cells #[.int .i64 (r).Kind, .int .i64 (r).Node, .int .i64 (r).State, .int .i64 (r).Count, .slice a (r).Ts.length c, .int .i64 (r).L.X, .int .i64 (r).L.Y, .int .i64 (r).L.T, .int .i64 (r).Kind, .int .i64 (r).Node, .int .i64 (r).State, .int .i64 (r).Count, .slice a' (r).Ts.length c', .int .i64 (r).L.X, .int .i64 (r).L.Y, .int .i64 (r).L.T, .bool true] 68)).ext D2).alloc (.cells #[.int .i64 (e).Kind, .int .i64 (e).ID, .int .i64 (e).X, .int .i64 (e).Y, .int .i64 (e).Time, .int .i64 (e).Wheel] 44)).ext x).alloc (.cells #[.int .i64 (q.1).Kind, .int .i64 (q.1).Node, .int .i64 (q.1).State, .int .i64 (q.1).Count, .slice a1 (q.1).Ts.length c1, .int .i64 (q.1).L.X, .int .i64 (q.1).L.Y, .int .i64 (q.1).L.T] 26)).ext y).ext x2).alloc (.cells #[.int .i64 (q.1).Kind, .int .i64 (q.1).Node, .int .i64 (q.1).State, .int .i64 (q.1).Count, .slice a2 (q.1).Ts.length c2, .int .i64 (q.1).L.X, .int .i64 (q.1).L.Y, .int .i64 (q.1).L.T] 26)).ext y2) (by (repeat (first | exact Ext.refl _ | assumption | refine Ext.alloc ?_ _ | refine Ext.ext ?_ _ | refine Ext.drew ?_)))) (w' := ((((((((((w0.ext D1).alloc (.cells #[.int .i64 (q.1).Kind, .int .i64 (q.1).Node, .int .i64 (q.1).State, .int .i64 (q.1).Count, .slice a1 (q.1).Ts.length c1, .int .i64 (q.1).L.X, .int .i64 (q.1).L.Y, .int .i64 (q.1).L.T, .int .i64 (q.1).Kind, .int .i64 (q.1).Node, .int .i64 (q.1).State, .int .i64 (q.1).Count, .slice a2 (q.1).Ts.length c2, .int .i64 (q.1).L.X, .int .i64 (q.1).L.Y, .int .i64 (q.1).L.T, .bool true] 68)).ext D2).alloc (.cells #[.int .i64 (e).Kind, .int .i64 (e).ID, .int .i64 (e).X, .int .i64 (e).Y, .int .i64 (e).Time, .int .i64 (e).Wheel] 44)).ext x).alloc (.cells #[.int .i64 (q.1).Kind, .int .i64 (q.1).Node, .int .i64 (q.1).State, .int .i64 (q.1).Count, .slice a1 (q.1).Ts.length c1, .int .i64 (q.1).L.X, .int .i64 (q.1).L.Y, .int .i64 (q.1).L.T] 26)).ext y).ext x2).alloc (.cells #[.int .i64 (q.1).Kind, .int .i64 (q.1).Node, .int .i64 (q.1).State, .int .i64 (q.1).Count, .slice a2 (q.1).Ts.length c2, .int .i64 (q.1).L.X, .int .i64 (q.1).L.Y, .int .i64 (q.1).L.T] 26)).ext y2)) (b := (w0.ext D1).heap.size) (z := #[.int .i64 (r).Kind, .int .i64 (r).Node, .int .i64 (r).State, .int .i64 (r).Count, .slice a (r).Ts.length c, .int .i64 (r).L.X, .int .i64 (r).L.Y, .int .i64 (r).L.T, .int .i64 (r).Kind, .int .i64 (r).Node, .int .i64 (r).State, .int .i64 (r).Count, .slice a' (r).Ts.length c', .int .i64 (r).L.X, .int .i64 (r).L.Y, .int .i64 (r).L.T, .bool true]) (by (repeat (first | exact Like.refl _ _ | refine Like.ext ?_ _ | refine Like.alloc ?_ _ | refine Like.swap ?_ (by simp <;> omega) _ _))) (by (repeat (first | (refine heap_new _ _ ?_; focus (first | with_reducible rfl | (simp only [World.size_ext, World.size_alloc]; done))) | refine heap_ext1 ?_ | refine heap_alloc1 ?_)))) ?_
    (repeat (first | exact Ext.refl _ | assumption | refine Ext.alloc ?_ _ | refine Ext.ext ?_ _ | refine Ext.drew ?_))
  · (repeat (first | exact Ext.refl _ | assumption | refine Ext.alloc ?_ _ | refine Ext.ext ?_ _ | refine Ext.drew ?_))
end Go.Proofs.Ytendgmnbnnkpnaa.G
namespace Go.Proofs.Ytendgmnbnnkpnaa.G
open Go.RowKit
theorem OwnG.turnB {w w' : World} {B b : Nat} {z : Array Value} {v : Value} {gs : List Ges} (h : OwnG w B v gs) (hl : Like (fun k => k = b) w w') (hb : w.heap[b]? = some (.cells z 68)) : OwnG w' B v gs :=
  ⟨ownsRow_like h.1 hl (own_ne' h.1 hb (by decide)), h.2⟩
theorem win_len (r : Rec) : (win r).2.length ≤ 2 := by unfold win; repeat' (first | split | simp)
set_option maxRecDepth 100000 in
set_option maxHeartbeats 4000000 in
theorem both_win (w0 w : World) (M : Nat) (r : Rec) (h : ROk r) (hf : Fresh r) (hB : Both w0 w M r) :
    Calls Try.prog 28 #[.pointer (some ⟨M, 0, none⟩), .int .i64 0] w fun x w' => ∃ v, x = .returned v ∧ Both w0 w' M (win r).1 ∧ Turned M w w' := by
  obtain ⟨D1, D2, a, c, a', c', rfl, rfl, h1, h2⟩ := hB
  have hq := fun a c w h' => win_g r h a c w h'
  have hq' := fun a c w h' => rwin_g r h a c w h'
  have hqk : ROk (win r).1 := win_ok h hf
  have hlen := win_len r
  obtain ⟨q, hqd⟩ : ∃ q, q = win r := ⟨_, rfl⟩
  rw [← hqd] at hq hq' hqk hlen ⊢
  simp only [recC] at hq hq'
  have heq := Lib.hid fun a a' c c' w hr hr' => r_equal q.1 hqk a a' c c' w hr hr'
  have heg := Lib.hid fun v v' w (hr : OwnG w 0 v q.2) (hr' : OwnG w 0 v' q.2) => r_equalG q.2 hlen v v' w hr.rep hr'.rep
  replace hq := Lib.hid hq
  replace hq' := Lib.hid hq'
  replace h1 := Lib.hid h1
  replace h2 := Lib.hid h2
  clear hqd h hf hlen hqk
  go_enter Try.func28, Try.ntmps28
  go_wp2_with fail
  refine Calls.mono (hq.out _ _ _ h1.out.rep) ?_
  rintro _ _ ⟨a1, c1, v1, rfl, ⟨d1, rfl⟩, t1, g1⟩
  replace t1 := Lib.hid t1
  replace g1 := Lib.hid g1
  go_wp2_with fail
  refine Calls.mono (hq'.out _ _ _ (TsO.ext (TsO.turnB h2.out (w' := ((w0.ext D1).alloc (.cells #[.int .i64 q.1.Kind, .int .i64 q.1.Node, .int .i64 q.1.State, .int .i64 q.1.Count, .slice a1 q.1.Ts.length c1, .int .i64 q.1.L.X, .int .i64 q.1.L.Y, .int .i64 q.1.L.T, .int .i64 r.Kind, .int .i64 r.Node, .int .i64 r.State, .int .i64 r.Count, .slice a' r.Ts.length c', .int .i64 r.L.X, .int .i64 r.L.Y, .int .i64 r.L.T, .bool true] 68)).ext D2) (b := (w0.ext D1).heap.size) (z := #[.int .i64 (r).Kind, .int .i64 (r).Node, .int .i64 (r).State, .int .i64 (r).Count, .slice a (r).Ts.length c, .int .i64 (r).L.X, .int .i64 (r).L.Y, .int .i64 (r).L.T, .int .i64 (r).Kind, .int .i64 (r).Node, .int .i64 (r).State, .int .i64 (r).Count, .slice a' (r).Ts.length c', .int .i64 (r).L.X, .int .i64 (r).L.Y, .int .i64 (r).L.T, .bool true]) (by (repeat (first | exact Like.refl _ _ | refine Like.ext ?_ _ | refine Like.alloc ?_ _ | refine Like.swap ?_ (by simp <;> omega) _ _))) (by (repeat (first | (refine heap_new _ _ ?_; focus (first | with_reducible rfl | (simp only [World.size_ext, World.size_alloc]; done))) | refine heap_ext1 ?_ | refine heap_alloc1 ?_)))) ?_)) ?_
  focus (repeat (first | exact Ext.refl _ | assumption | refine Ext.alloc ?_ _ | refine Ext.ext ?_ _ | refine Ext.drew ?_))
  rintro _ _ ⟨a2, c2, v2, rfl, ⟨d2, rfl⟩, t2, g2⟩
  replace t2 := Lib.hid t2
  replace g2 := Lib.hid g2
  have hU1 := Lib.hid fun w' (he : Ext ((((w0.ext D1).alloc (.cells #[.int .i64 (q.1).Kind, .int .i64 (q.1).Node, .int .i64 (q.1).State, .int .i64 (q.1).Count, .slice a1 (q.1).Ts.length c1, .int .i64 (q.1).L.X, .int .i64 (q.1).L.Y, .int .i64 (q.1).L.T, .int .i64 (q.1).Kind, .int .i64 (q.1).Node, .int .i64 (q.1).State, .int .i64 (q.1).Count, .slice a2 (q.1).Ts.length c2, .int .i64 (q.1).L.X, .int .i64 (q.1).L.Y, .int .i64 (q.1).L.T, .bool true] 68)).ext D2).ext d1) w') => (TsO.turnB t1.out (w' := (((w0.ext D1).alloc (.cells #[.int .i64 (q.1).Kind, .int .i64 (q.1).Node, .int .i64 (q.1).State, .int .i64 (q.1).Count, .slice a1 (q.1).Ts.length c1, .int .i64 (q.1).L.X, .int .i64 (q.1).L.Y, .int .i64 (q.1).L.T, .int .i64 (q.1).Kind, .int .i64 (q.1).Node, .int .i64 (q.1).State, .int .i64 (q.1).Count, .slice a2 (q.1).Ts.length c2, .int .i64 (q.1).L.X, .int .i64 (q.1).L.Y, .int .i64 (q.1).L.T, .bool true] 68)).ext D2).ext d1) (b := (w0.ext D1).heap.size) (z := #[.int .i64 (r).Kind, .int .i64 (r).Node, .int .i64 (r).State, .int .i64 (r).Count, .slice a (r).Ts.length c, .int .i64 (r).L.X, .int .i64 (r).L.Y, .int .i64 (r).L.T, .int .i64 (r).Kind, .int .i64 (r).Node, .int .i64 (r).State, .int .i64 (r).Count, .slice a' (r).Ts.length c', .int .i64 (r).L.X, .int .i64 (r).L.Y, .int .i64 (r).L.T, .bool true]) (by (repeat (first | exact Like.refl _ _ | refine Like.ext ?_ _ | refine Like.alloc ?_ _ | refine Like.swap ?_ (by simp <;> omega) _ _))) (by (repeat (first | (refine heap_new _ _ ?_; focus (first | with_reducible rfl | (simp only [World.size_ext, World.size_alloc]; done))) | refine heap_ext1 ?_ | refine heap_alloc1 ?_)))).ext he
  have hU2 := Lib.hid fun w' (he : Ext (((((w0.ext D1).alloc (.cells #[.int .i64 (q.1).Kind, .int .i64 (q.1).Node, .int .i64 (q.1).State, .int .i64 (q.1).Count, .slice a1 (q.1).Ts.length c1, .int .i64 (q.1).L.X, .int .i64 (q.1).L.Y, .int .i64 (q.1).L.T, .int .i64 (q.1).Kind, .int .i64 (q.1).Node, .int .i64 (q.1).State, .int .i64 (q.1).Count, .slice a2 (q.1).Ts.length c2, .int .i64 (q.1).L.X, .int .i64 (q.1).L.Y, .int .i64 (q.1).L.T, .bool true] 68)).ext D2).ext d1).ext d2) w') => (TsO.turnB t2.out (w' := ((((w0.ext D1).alloc (.cells #[.int .i64 (q.1).Kind, .int .i64 (q.1).Node, .int .i64 (q.1).State, .int .i64 (q.1).Count, .slice a1 (q.1).Ts.length c1, .int .i64 (q.1).L.X, .int .i64 (q.1).L.Y, .int .i64 (q.1).L.T, .int .i64 (q.1).Kind, .int .i64 (q.1).Node, .int .i64 (q.1).State, .int .i64 (q.1).Count, .slice a2 (q.1).Ts.length c2, .int .i64 (q.1).L.X, .int .i64 (q.1).L.Y, .int .i64 (q.1).L.T, .bool true] 68)).ext D2).ext d1).ext d2) (b := (w0.ext D1).heap.size) (z := #[.int .i64 q.1.Kind, .int .i64 q.1.Node, .int .i64 q.1.State, .int .i64 q.1.Count, .slice a1 q.1.Ts.length c1, .int .i64 q.1.L.X, .int .i64 q.1.L.Y, .int .i64 q.1.L.T, .int .i64 r.Kind, .int .i64 r.Node, .int .i64 r.State, .int .i64 r.Count, .slice a' r.Ts.length c', .int .i64 r.L.X, .int .i64 r.L.Y, .int .i64 r.L.T, .bool true]) (by (repeat (first | exact Like.refl _ _ | refine Like.ext ?_ _ | refine Like.alloc ?_ _ | refine Like.swap ?_ (by simp <;> omega) _ _))) (by (repeat (first | (refine heap_new _ _ ?_; focus (first | with_reducible rfl | (simp only [World.size_ext, World.size_alloc]; done))) | refine heap_ext1 ?_ | refine heap_alloc1 ?_)))).ext he
  have hV1 := Lib.hid fun w' (he : Ext ((((w0.ext D1).alloc (.cells #[.int .i64 (q.1).Kind, .int .i64 (q.1).Node, .int .i64 (q.1).State, .int .i64 (q.1).Count, .slice a1 (q.1).Ts.length c1, .int .i64 (q.1).L.X, .int .i64 (q.1).L.Y, .int .i64 (q.1).L.T, .int .i64 (q.1).Kind, .int .i64 (q.1).Node, .int .i64 (q.1).State, .int .i64 (q.1).Count, .slice a2 (q.1).Ts.length c2, .int .i64 (q.1).L.X, .int .i64 (q.1).L.Y, .int .i64 (q.1).L.T, .bool true] 68)).ext D2).ext d1) w') => (OwnG.turnB g1.out (w' := (((w0.ext D1).alloc (.cells #[.int .i64 (q.1).Kind, .int .i64 (q.1).Node, .int .i64 (q.1).State, .int .i64 (q.1).Count, .slice a1 (q.1).Ts.length c1, .int .i64 (q.1).L.X, .int .i64 (q.1).L.Y, .int .i64 (q.1).L.T, .int .i64 (q.1).Kind, .int .i64 (q.1).Node, .int .i64 (q.1).State, .int .i64 (q.1).Count, .slice a2 (q.1).Ts.length c2, .int .i64 (q.1).L.X, .int .i64 (q.1).L.Y, .int .i64 (q.1).L.T, .bool true] 68)).ext D2).ext d1) (b := (w0.ext D1).heap.size) (z := #[.int .i64 (r).Kind, .int .i64 (r).Node, .int .i64 (r).State, .int .i64 (r).Count, .slice a (r).Ts.length c, .int .i64 (r).L.X, .int .i64 (r).L.Y, .int .i64 (r).L.T, .int .i64 (r).Kind, .int .i64 (r).Node, .int .i64 (r).State, .int .i64 (r).Count, .slice a' (r).Ts.length c', .int .i64 (r).L.X, .int .i64 (r).L.Y, .int .i64 (r).L.T, .bool true]) (by (repeat (first | exact Like.refl _ _ | refine Like.ext ?_ _ | refine Like.alloc ?_ _ | refine Like.swap ?_ (by simp <;> omega) _ _))) (by (repeat (first | (refine heap_new _ _ ?_; focus (first | with_reducible rfl | (simp only [World.size_ext, World.size_alloc]; done))) | refine heap_ext1 ?_ | refine heap_alloc1 ?_)))).ext he
  have hV2 := Lib.hid fun w' (he : Ext (((((w0.ext D1).alloc (.cells #[.int .i64 (q.1).Kind, .int .i64 (q.1).Node, .int .i64 (q.1).State, .int .i64 (q.1).Count, .slice a1 (q.1).Ts.length c1, .int .i64 (q.1).L.X, .int .i64 (q.1).L.Y, .int .i64 (q.1).L.T, .int .i64 (q.1).Kind, .int .i64 (q.1).Node, .int .i64 (q.1).State, .int .i64 (q.1).Count, .slice a2 (q.1).Ts.length c2, .int .i64 (q.1).L.X, .int .i64 (q.1).L.Y, .int .i64 (q.1).L.T, .bool true] 68)).ext D2).ext d1).ext d2) w') => (OwnG.turnB g2.out (w' := ((((w0.ext D1).alloc (.cells #[.int .i64 (q.1).Kind, .int .i64 (q.1).Node, .int .i64 (q.1).State, .int .i64 (q.1).Count, .slice a1 (q.1).Ts.length c1, .int .i64 (q.1).L.X, .int .i64 (q.1).L.Y, .int .i64 (q.1).L.T, .int .i64 (q.1).Kind, .int .i64 (q.1).Node, .int .i64 (q.1).State, .int .i64 (q.1).Count, .slice a2 (q.1).Ts.length c2, .int .i64 (q.1).L.X, .int .i64 (q.1).L.Y, .int .i64 (q.1).L.T, .bool true] 68)).ext D2).ext d1).ext d2) (b := (w0.ext D1).heap.size) (z := #[.int .i64 q.1.Kind, .int .i64 q.1.Node, .int .i64 q.1.State, .int .i64 q.1.Count, .slice a1 q.1.Ts.length c1, .int .i64 q.1.L.X, .int .i64 q.1.L.Y, .int .i64 q.1.L.T, .int .i64 r.Kind, .int .i64 r.Node, .int .i64 r.State, .int .i64 r.Count, .slice a' r.Ts.length c', .int .i64 r.L.X, .int .i64 r.L.Y, .int .i64 r.L.T, .bool true]) (by (repeat (first | exact Like.refl _ _ | refine Like.ext ?_ _ | refine Like.alloc ?_ _ | refine Like.swap ?_ (by simp <;> omega) _ _))) (by (repeat (first | (refine heap_new _ _ ?_; focus (first | with_reducible rfl | (simp only [World.size_ext, World.size_alloc]; done))) | refine heap_ext1 ?_ | refine heap_alloc1 ?_)))).ext he
  clear t1 t2 g1 g2 hq hq' h1 h2
  go_wp2_with fail
  (refine wp_region_calm_ops [0, 1, 2, 3, 4, 5, 6, 7, 8, 9, 10, 11, 12, 13, 14, 15, 16, 17, 18, 19, 20, 21, 22] [] [] [23] (by kernel_rfl) (by kernel_rfl) (by simp only [List.filterMap_cons, List.filterMap_nil, List.getElem?_toArray, List.getElem?_cons_succ, List.getElem?_cons_zero]; try exact rfl) (by simp only [List.filterMap_cons, List.filterMap_nil, List.getElem?_toArray, List.getElem?_cons_succ, List.getElem?_cons_zero]; try exact rfl) (by simp only [List.filterMap_cons, List.filterMap_nil, List.getElem?_toArray, List.getElem?_cons_succ, List.getElem?_cons_zero]; try exact rfl) ?_; (repeat (first | (refine ql_plain rfl rfl ?_; intro K hK; go_big_quiet_op; go_big_quiet_on) | (refine ql_nilCheck rfl rfl rfl ?_; intro K hK; simp only [Act.put, List.setIfInBounds_toArray, List.set_cons_succ, List.set_cons_zero]; go_big_quiet_on) | (refine ql_call (fun _ => heq.out _ _ _ _ _ (hU1.out _ (by (repeat (first | exact Ext.refl _ | assumption | refine Ext.alloc ?_ _ | refine Ext.ext ?_ _ | refine Ext.drew ?_)))).rep (hU2.out _ (by (repeat (first | exact Ext.refl _ | assumption | refine Ext.alloc ?_ _ | refine Ext.ext ?_ _ | refine Ext.drew ?_)))).rep) rfl rfl Try.func15 rfl (by kernel_rfl) rfl ?_; intro K hK; simp only [Act.put, List.setIfInBounds_toArray, List.set_cons_succ, List.set_cons_zero]; go_big_quiet_on) | (refine ql_call (fun _ => heg.out _ _ _ (hV1.out _ (by (repeat (first | exact Ext.refl _ | assumption | refine Ext.alloc ?_ _ | refine Ext.ext ?_ _ | refine Ext.drew ?_)))) (hV2.out _ (by (repeat (first | exact Ext.refl _ | assumption | refine Ext.alloc ?_ _ | refine Ext.ext ?_ _ | refine Ext.drew ?_))))) rfl rfl Try.func49 rfl (by kernel_rfl) rfl ?_; intro K hK; simp only [Act.put, List.setIfInBounds_toArray, List.set_cons_succ, List.set_cons_zero]; go_big_quiet_on) | (refine ql_skip rfl ?_; intro K hK; simp only [Act.put, List.setIfInBounds_toArray, List.set_cons_succ, List.set_cons_zero]; go_big_quiet_on))); refine ql_nil ?_)
  refine mw0 ?_; (repeat (first | (refine pl_plain rfl rfl ?_; intro K hK; go_big_quiet_op; go_big_quiet_on) | (refine pl_nilCheck rfl rfl rfl ?_; intro K hK; simp only [Act.put, List.setIfInBounds_toArray, List.set_cons_succ, List.set_cons_zero]; go_big_quiet_on))); refine pl_nil ?_; rintro w1 ⟨d1, rfl⟩ -
  go_wp2; refine only_normal ?_
  go_wp2
  (refine bodyPost_ret (v := ?_) (by simp [results, Try.results28, go_sem]; rfl) rfl ?_)
  refine ⟨_, rfl, both_of (a := a1) (c := c1) (a' := a2) (c' := c2) rfl ?_ (hU1.out _ ?_) (hU2.out _ ?_), turned_of (O' := .cells #[.int .i64 (q.1).Kind, .int .i64 (q.1).Node, .int .i64 (q.1).State, .int .i64 (q.1).Count, .slice a1 (q.1).Ts.length c1, .int .i64 (q.1).L.X, .int .i64 (q.1).L.Y, .int .i64 (q.1).L.T, .int .i64 (q.1).Kind, .int .i64 (q.1).Node, .int .i64 (q.1).State, .int .i64 (q.1).Count, .slice a2 (q.1).Ts.length c2, .int .i64 (q.1).L.X, .int .i64 (q.1).L.Y, .int .i64 (q.1).L.T, .bool true] 68) ?_⟩ <;> (repeat (first | exact Ext.refl _ | assumption | refine Ext.alloc ?_ _ | refine Ext.ext ?_ _ | refine Ext.drew ?_))
end Go.Proofs.Ytendgmnbnnkpnaa.G
namespace Go
theorem i64_and31 (n : Int) : bits .and .i64 n 2147483647 = n % 2147483648 := by
  have h127 : (BitVec.ofInt 64 2147483647).toNat = 2 ^ 31 - 1 := by decide
  have key : (BitVec.ofInt 64 n &&& BitVec.ofInt 64 2147483647).toNat = (n % ((2 ^ 64 : Nat) : Int)).toNat % 2 ^ 31 := by
    rw [BitVec.toNat_and, BitVec.toNat_ofInt, h127, Nat.and_two_pow_sub_one_eq_mod]
  show IntKind.i64.wrap ((BitVec.ofInt 64 n &&& BitVec.ofInt 64 2147483647).toNat : Nat) = n % 2147483648
  rw [key, IntKind.wrap_i64]
  omega
theorem raw_kind (n : Int) : ∃ K : Int, Go.RowKit.wrap64 (1 + (bits BinOp.and IntKind.i64 n 2147483647).tmod 8) = K ∧ 1 ≤ K ∧ K ≤ 8 := by
  rw [i64_and31, Int.tmod_eq_emod_of_nonneg (by omega)]
  refine ⟨_, rfl, ?_⟩
  unfold Go.RowKit.wrap64
  omega
end Go
namespace Go.Proofs.Ytendgmnbnnkpnaa.G
open Go.RowKit
theorem Both.ext {w0 w : World} {M : Nat} {r : Rec} (h : Both w0 w M r) : Ext w0 w := by
  obtain ⟨D1, D2, a, c, a', c', rfl, rfl, _, _⟩ := h
  (repeat (first | exact Ext.refl _ | assumption | refine Ext.alloc ?_ _ | refine Ext.ext ?_ _ | refine Ext.drew ?_))
theorem Both.ok {w0 w : World} {M : Nat} {r : Rec} (h : Both w0 w M r) : w.cell? ⟨M, 16, none⟩ = some (.bool true) ∧ M < w.heap.size := by
  obtain ⟨D1, D2, a, c, a', c', rfl, rfl, _, _⟩ := h
  refine ⟨?_, by simp <;> omega⟩
  have := heap_at w0 D1 (.cells #[.int .i64 (r).Kind, .int .i64 (r).Node, .int .i64 (r).State, .int .i64 (r).Count, .slice a (r).Ts.length c, .int .i64 (r).L.X, .int .i64 (r).L.Y, .int .i64 (r).L.T, .int .i64 (r).Kind, .int .i64 (r).Node, .int .i64 (r).State, .int .i64 (r).Count, .slice a' (r).Ts.length c', .int .i64 (r).L.X, .int .i64 (r).L.Y, .int .i64 (r).L.T, .bool true] 68) (Y := ((w0.ext D1).alloc (.cells #[.int .i64 (r).Kind, .int .i64 (r).Node, .int .i64 (r).State, .int .i64 (r).Count, .slice a (r).Ts.length c, .int .i64 (r).L.X, .int .i64 (r).L.Y, .int .i64 (r).L.T, .int .i64 (r).Kind, .int .i64 (r).Node, .int .i64 (r).State, .int .i64 (r).Count, .slice a' (r).Ts.length c', .int .i64 (r).L.X, .int .i64 (r).L.Y, .int .i64 (r).L.T, .bool true] 68)).ext D2) (by (repeat (first | exact Ext.refl _ | assumption | refine Ext.alloc ?_ _ | refine Ext.ext ?_ _ | refine Ext.drew ?_)))
  simp only [World.cell?, this]
  rfl
theorem both_new {X : World} {M : Nat} {r : Rec} (hr : r.Ts = []) (hM : M = X.heap.size) : Both X (X.alloc (.cells #[.int .i64 (r).Kind, .int .i64 (r).Node, .int .i64 (r).State, .int .i64 (r).Count, .slice none (r).Ts.length 0, .int .i64 (r).L.X, .int .i64 (r).L.Y, .int .i64 (r).L.T, .int .i64 (r).Kind, .int .i64 (r).Node, .int .i64 (r).State, .int .i64 (r).Count, .slice none (r).Ts.length 0, .int .i64 (r).L.X, .int .i64 (r).L.Y, .int .i64 (r).L.T, .bool true] 68)) M r := by
  subst hM
  refine both_of (D1 := X.grow0) (a := none) (c := 0) (a' := none) (c' := 0) (by simp [World.grow0, Grow.size]) ?_ (.inl hr) (.inl hr)
  rw [World.ext_none]; exact Ext.refl _
set_option maxRecDepth 100000 in
set_option maxHeartbeats 4000000 in
theorem raw_long (kind wn : Int) (a : Option Addr) (n cap : Nat) (hn : 30 < n) (hm : n ≤ 9223372036854775807) (w : World) :
    Calls Try.prog 12 #[.int .i64 kind, .slice a n cap, .int .u8 wn] w fun e w' => e = .returned (.bool true) ∧ Ext w w' := by
  have h1 : decide ((30 : Int) < (n : Int)) = true := by simp; omega
  go_enter Try.func12, Try.ntmps12
  go_wp2
  go_ret
  refine ⟨rfl, ?_⟩
  (repeat (first | exact Ext.refl _ | assumption | refine Ext.alloc ?_ _ | refine Ext.ext ?_ _ | refine Ext.drew ?_))
set_option maxRecDepth 100000 in
set_option maxHeartbeats 4000000 in
theorem raw_short (kind wn : Int) (l : List Ev) (a : Option Addr) (cap : Nat) (hn : l.length ≤ 30) (hw : 0 ≤ wn ∧ wn ≤ 255) (w : World) (hl : l = [] ∨ ∃ b off, a = some ⟨b, off, none⟩ ∧ EvsAt w b off l) :
    Calls Try.prog 12 #[.int .i64 kind, .slice a l.length cap, .int .u8 wn] w fun e w' => e = .returned (.bool true) ∧ Ext w w' := by
  obtain ⟨n, hnd⟩ : ∃ n, n = l.length := ⟨_, rfl⟩
  rw [← hnd] at hn ⊢
  replace hnd := Lib.hid hnd
  replace hl := Lib.hid hl
  have h1 : decide ((30 : Int) < (n : Int)) = false := by simp; omega
  obtain ⟨hw1, hw2⟩ := hw
  obtain ⟨K, hK, hk1, hk2⟩ := raw_kind kind
  have hkb : btw K 1 8 = true := by simp [btw]; omega
  have hs := newR_sound (k := K) (n := 2) hkb rfl
  have hid := idle_new K 2
  replace hs := Lib.hid hs
  replace hid := Lib.hid hid
  go_enter Try.func12, Try.ntmps12
  go_wp2_with fail
  refine (New_ok K 2 _ hkb rfl).mono ?_
  rintro _ _ ⟨rfl, d1, rfl⟩
  go_wp2_with fail
  refine (refNew_ok K 2 _ hkb rfl).mono ?_
  rintro _ _ ⟨rfl, d2, rfl⟩
  go_wp2
  refine gen_at' (p := fun W => Code.wp _ _ _ _ W) ?_
  intro WW hW
  have hB : ∃ X, Ext w X ∧ Both X WW (w.heap.size + d1.size + 1 + d2.size + 1) (newR K 2) := by
    rw [hW]
    refine ⟨_, ?_, both_new (r := newR K 2) rfl ?_⟩
    · (repeat (first | exact Ext.refl _ | assumption | refine Ext.alloc ?_ _ | refine Ext.ext ?_ _ | refine Ext.drew ?_))
    · simp only [World.size_ext, World.size_alloc]
  obtain ⟨X, hX, hB⟩ := hB
  clear hW hK hkb hk1 hk2
  obtain ⟨M, hM⟩ : ∃ M, M = w.heap.size + d1.size + 1 + d2.size + 1 := ⟨_, rfl⟩
  rw [← hM] at hB ⊢
  clear hM
  replace hX := Lib.hid hX
  replace hB := Lib.hid hB
  go_loopw [13] (fun i wr => ∃ (k : Nat) (r : Rec), k ≤ n ∧ i = .int .i64 k ∧ Hid (Both X wr M r) ∧ Hid (Sound r) ∧ Hid (Idle r)) (fun i _ => n - (intOf i).toNat)
  case atStart => exact ⟨0, _, Nat.zero_le _, rfl, hB, hs, hid⟩
  case round =>
    obtain ⟨k, r, hk, rfl, hb, hs, hi⟩ := hrel
    obtain ⟨hok, hM⟩ := hb.out.ok
    by_cases hlt : k < n
    · obtain ⟨e, he⟩ : ∃ e, l[k]? = some e := ⟨_, List.getElem?_eq_getElem (hnd.out ▸ hlt)⟩
      obtain ⟨b, off, rfl, hev⟩ : ∃ b off, a = some ⟨b, off, none⟩ ∧ EvsAt w b off l := by
        rcases hl.out with h | h
        · rw [h] at he; cases he
        · exact h
      have hev0 := hev k e he
      replace hev0 := Lib.hid hev0
      clear hev he
      rcases hq : ((k : Int) == wn % 31) with _ | _
      · obtain ⟨c0, c1, c2, c3, c4, c5⟩ := hev0.out.ext (hX.out.trans hb.out.ext)
        have hbl := World.block_lt_of_cell? wr ⟨b, off + k * 6, none⟩ c0
        simp only at hbl
        go_wp2_with fail
        refine Calls.mono (both_feed X _ M r hs.out.ok hi.out e hb.out) ?_
        rintro _ w2 ⟨va, vn, vc, rfl, hb2, -⟩
        go_wp2
        go_roundw
        case rel => exact ⟨k + 1, _, by omega, by go_num, Lib.hid hb2, Lib.hid (hs.out.feed e), Lib.hid (idle_feed hi.out e)⟩
        case measure => simp [intOf]; omega
      · go_wp2_with fail
        refine Calls.mono (both_win X _ M r hs.out.ok hs.out.fresh hb.out) ?_
        rintro _ w2 ⟨v, rfl, hb2, -⟩
        obtain ⟨c0, c1, c2, c3, c4, c5⟩ := hev0.out.ext (hX.out.trans hb2.ext)
        have hbl := World.block_lt_of_cell? w2 ⟨b, off + k * 6, none⟩ c0
        simp only at hbl
        replace hb2 := Lib.hid hb2
        go_wp2_with fail
        refine Calls.mono (both_feed X _ M (win r).1 hs.out.win.ok (idle_win hi.out) e hb2.out) ?_
        rintro _ w3 ⟨va, vn, vc, rfl, hb3, -⟩
        go_wp2
        go_roundw
        case rel => exact ⟨k + 1, _, by omega, by go_num, Lib.hid hb3, Lib.hid (hs.out.win.feed e), Lib.hid (idle_feed (idle_win hi.out) e)⟩
        case measure => simp [intOf]; omega
    · obtain rfl : k = n := by omega
      go_wp2_with fail
      refine (awake_any _).mono ?_
      rintro _ _ ⟨rfl, da, rfl⟩
      go_wp2
      go_ret
      exact ⟨rfl, (hX.out.trans hb.out.ext).ext da⟩
theorem raw_law (kind wn : Int) (l : List Ev) (a : Option Addr) (cap : Nat) (hm : l.length ≤ 9223372036854775807) (hw : 0 ≤ wn ∧ wn ≤ 255) (w : World) (hl : l = [] ∨ ∃ b off, a = some ⟨b, off, none⟩ ∧ EvsAt w b off l) :
    Calls Try.prog 12 #[.int .i64 kind, .slice a l.length cap, .int .u8 wn] w fun e w' => e = .returned (.bool true) ∧ Ext w w' := by
  by_cases hn : l.length ≤ 30
  · exact raw_short kind wn l a cap hn hw w hl
  · exact raw_long kind wn a l.length cap (by omega) hm w
end Go.Proofs.Ytendgmnbnnkpnaa.G
