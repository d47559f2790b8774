/- quit. -/
import Derived.Test.YtcnmljpabmgieaaAr5
import Derived.ArgAppend
import Derived.Deep.DeepCutAuto
import Derived.WalkKit
import Derived.WalkSpells
import Derived.WalkLawsBesides
import Derived.Deep.QuietTactic
import Derived.BigQuiet
import Derived.BigRegion
import Derived.Lib.Hide
import Derived.Deep.RegionWith
set_option linter.unusedSimpArgs false
set_option linter.unusedVariables false
namespace Go
open Go.RowKit
/-- append onto a full row, as an operation of a drawn region: a new row -/
theorem app_grow {P : Program} {o : Oper} {a : Act} {W : World} (s x : Operand) (t e : TypeId) (z : Value) (size bytes : Nat) (hinfo : (P.info? e).map (fun i => (i.zero, i.size, i.bytes)) = some (some z, size, bytes)) (ht : P.underlying t = some (.slice e)) (hzs : z.cells.size = size) (hsz : 0 < size)
    (b : Addr) (n cap : Nat) (olds : List Value) (hlo : olds.length = n * size) (holds : ∀ j u, olds[j]? = some u → W.cell? (b.add j) = some u)
    (ad : Addr) (m c : Nat) (news : List Value) (hl : news.length = m * size) (hnews : ∀ j u, news[j]? = some u → W.cell? (ad.add j) = some u)
    (hg : cap < n + m) (h63 : n + m ≤ maxLen) (hbytes : (n + m) * bytes ≤ 140737488355328) (ho : o.op = .call { callee := .builtin .append, args := #[s, x], argTypes := #[t, t] }) (hs : a.eval s = .slice (some b) n cap) (hx : a.eval x = .slice (some ad) m c) :
    ∃ u w', (execOp a.eval o).run P W = .ok (.value u) w' ∧ Ext W w' ∧ AppF 0 e size (n + m) (olds ++ news) u w' ∧ ∀ b, u.blk = some b → W.heap.size ≤ b ∧ b < w'.heap.size := by
  obtain ⟨i, hi, hz, hi1, hi2⟩ := info_parts hinfo
  obtain ⟨v', w', hr, h2, h3⟩ := run_append_arg_grows (P := P) W t o.type e i z size bytes ht hi hz hi1 hi2 hzs hsz b n cap olds hlo holds ad m c news hl hnews hg h63 hbytes
  have hm : 0 < n + m := by omega
  obtain ⟨g, c', rfl⟩ := ownsRow_pos h2 hm
  refine ⟨_, w', ?_, Ext.of_grown (Ext.refl W) h3 (fun k hk => by cases hk), ⟨g, c', rfl, own_low h2 (Nat.zero_le _)⟩, fun b hb => ?_⟩
  · unfold execOp
    simp only [ho, resolve, invoke, builtin, Sem.run_bind, Sem.run_pure, Result.andThen_ok, List.map_toArray, List.map_cons, List.map_nil, hs, hx, hr]
  · obtain rfl : g = b := by simpa [Value.blk] using hb
    exact h2.lt g rfl
end Go
namespace Go.Proofs.Ytcnmljpabmgieaa.R
open Go.RowKit
/-- a list, handed back -/
def LiF (B : Nat) (l : List Int) (u : Value) : Facts := fun w => ∃ a c, u = .slice a l.length c ∧ OI B w a c l
def LiS (l : List Int) : Shp := .of (fun u => ∃ a c, u = .slice a l.length c) (.slice none l.length 0) ⟨none, 0, rfl⟩ rfl
theorem LiF.stable (B : Nat) (l : List Int) : Stable (LiF B l) := fun _ _ _ ⟨a, c, h1, h2⟩ he => ⟨a, c, h1, h2.ext he⟩
theorem LiF.shp (B : Nat) (l : List Int) : ∀ u w, LiF B l u w → (LiS l).ok u := fun _ _ ⟨a, c, h, _⟩ => ⟨a, c, h⟩
theorem LiF.use {B : Nat} {l : List Int} {a : Option Addr} {c : Nat} {w : World} (h : LiF B l (.slice a l.length c) w) : OI B w a c l := by
  obtain ⟨a', c', h1, h2⟩ := h
  simp only [Value.slice.injEq, true_and] at h1
  obtain ⟨rfl, rfl⟩ := h1
  exact h2
theorem own_blk {w : World} {B n c : Nat} {a : Option Addr} {xs : List Value} {size : Nat} {T : TypeId} (h : w.ownsRow B T size (.slice a n c) n xs) : ∀ b, (Value.slice a n c).blk = some b → B ≤ b ∧ b < w.heap.size := by
  intro b hb
  rcases h.2 with ⟨hv, _⟩ | ⟨g, cap, cur, hv, hB, hg, _⟩
  · rw [hv] at hb; cases hb
  · rw [hv] at hb
    obtain rfl : g = b := by simpa [Value.blk] using hb
    exact ⟨hB, (Array.getElem?_eq_some_iff.1 hg).1⟩
theorem without_mk (B : Nat) (l : List Int) (m : Int) (a : Option Addr) (cap : Nat) (w : World) (hl : l.length ≤ 1000000) (h : RepI w a l) (hB : B ≤ w.heap.size) :
    Calls Try.prog 39 #[.slice a l.length cap, .int .i64 m] w fun x w' => ∃ u, x = .returned u ∧ Ext w w' ∧ LiF B (without l m) u w' ∧ ∀ b, u.blk = some b → w.heap.size ≤ b ∧ b < w'.heap.size := by
  refine (without_ok l m a cap w hl h).mono ?_
  rintro x w' ⟨a', c', rfl, he, ho⟩
  exact ⟨_, rfl, he, ⟨a', c', rfl, own_low ho hB⟩, own_blk ho⟩
theorem clone_mk (B : Nat) (l : List Int) (a : Option Addr) (cap : Nat) (w : World) (hl : l.length ≤ 1000000) (h : RepI w a l) (hB : B ≤ w.heap.size) :
    Calls Try.prog 34 #[.slice a l.length cap] w fun x w' => ∃ u, x = .returned u ∧ Ext w w' ∧ LiF B l u w' ∧ ∀ b, u.blk = some b → w.heap.size ≤ b ∧ b < w'.heap.size := by
  refine (clone_ok l a cap w hl h).mono ?_
  rintro x w' ⟨a', c', rfl, he, ho⟩
  exact ⟨_, rfl, he, ⟨a', c', rfl, own_low ho hB⟩, own_blk ho⟩
theorem settle_len (a : Arn) : (settle a).2.length ≤ a.Left.length := by
  unfold settle
  split
  · simp [decideA]
  · simp
set_option maxRecDepth 100000 in
set_option maxHeartbeats 4000000 in
theorem quit_ok {B : Nat} (a : Arn) (m : Int) (la ha : Option Addr) (lc hc : Nat) (w : World) (hB : B ≤ w.heap.size) (hl : a.Left.length ≤ 1000000) (hl2 : a.Holds.length ≤ 1000000) (h1 : OI B w la lc a.Left) (h2 : OI B w ha hc a.Holds) (hne : a.Open = false → without a.Left m ≠ []) :
    Calls Try.prog 37 #[.agg #[.int .i64 (a).Members, .slice la (a).Left.length lc, .bool (a).Open, .int .i64 (a).Eager, .slice ha (a).Holds.length hc, .bool (a).Swept, .int .i64 (a).Winner, .bool (a).Done], .int .i64 m] w fun x w' => ∃ u, x = .returned u ∧ Ext w w' ∧ ArF B (quit a m) u w' := by
  have hw1 := Lib.hid fun w' (he : Ext w w') => without_mk B a.Left m la lc w' hl (h1.rep.ext he) (Nat.le_trans hB he.size)
  have hw2 := Lib.hid fun w' (he : Ext w w') => without_mk B a.Holds m ha hc w' hl2 (h2.rep.ext he) (Nat.le_trans hB he.size)
  obtain ⟨n, hn⟩ : ∃ n, n = a.Left.length := ⟨_, rfl⟩
  obtain ⟨nh, hnh⟩ : ∃ n, n = a.Holds.length := ⟨_, rfl⟩
  rw [← hn] at hw1 ⊢
  rw [← hnh] at hw2 ⊢
  obtain ⟨L, hL⟩ : ∃ L, L = without a.Left m := ⟨_, rfl⟩
  obtain ⟨H, hH⟩ : ∃ H, H = without a.Holds m := ⟨_, rfl⟩
  rw [← hL] at hw1
  rw [← hH] at hw2
  replace hn := Lib.hid hn
  replace hnh := Lib.hid hnh
  replace hL := Lib.hid hL
  replace hH := Lib.hid hH
  replace hne := Lib.hid hne
  have hll := Lib.hid hl
  obtain ⟨Z, hZ⟩ : ∃ Z, Z = quit a m := ⟨_, rfl⟩
  rw [← hZ]
  replace hZ := Lib.hid hZ
  clear h1 h2 hl hl2
  go_enter Try.func37, Try.ntmps37
  go_wp2
  (refine wp_region_segs (fun i => if i = 3 then some (LiF B L, LiS L) else if i = 7 then some (LiF B H, LiS H) else none) [([0, 1, 2], .m, 3), ([4, 5, 6], .m, 7)] [8] [] [9, 10, 11] (by kernel_rfl) (by kernel_rfl) (by simp only [List.map_cons, List.map_nil, List.filterMap_cons, List.filterMap_nil, List.getElem?_toArray, List.getElem?_cons_succ, List.getElem?_cons_zero]; try exact rfl) (by simp only [List.filterMap_cons, List.filterMap_nil, List.getElem?_toArray, List.getElem?_cons_succ, List.getElem?_cons_zero]; try exact rfl) (by simp only [List.filterMap_cons, List.filterMap_nil, List.getElem?_toArray, List.getElem?_cons_succ, List.getElem?_cons_zero]; try exact rfl) (by simp only [List.filterMap_cons, List.filterMap_nil, List.getElem?_toArray, List.getElem?_cons_succ, List.getElem?_cons_zero]; try exact rfl) (by decide) ?_)
  (refine sg_m ?_; (repeat (first | (refine ql_plain rfl rfl ?_; intro K hK; go_big_quiet_op; go_big_quiet_on) | (refine ql_nilCheck rfl rfl rfl ?_; intro K hK; simp only [Act.put, List.setIfInBounds_toArray, List.set_cons_succ, List.set_cons_zero]; go_big_quiet_on) | fail | (refine ql_skip rfl ?_; intro K hK; simp only [Act.put, List.setIfInBounds_toArray, List.set_cons_succ, List.set_cons_zero]; go_big_quiet_on))); refine ql_nil ?_)
  (refine sg_call (f := 39) (LiF B L) (LiS L) rfl (LiF.shp B L) (LiF.stable B L) (fun d => hw1.out _ (by (repeat (first | exact Ext.refl _ | assumption | refine Ext.alloc ?_ _ | refine Ext.ext ?_ _ | refine Ext.drew ?_)))) (by simp only [List.getElem?_toArray, List.getElem?_cons_succ, List.getElem?_cons_zero]; try exact rfl) rfl rfl Try.func39 rfl (by kernel_rfl) rfl ?_; intro u hu hS K hK; obtain ⟨la1, lc1, rfl⟩ := hS; simp only [Act.put, List.setIfInBounds_toArray, List.set_cons_succ, List.set_cons_zero]; refine hK _ ?_; clear hK K)
  (refine sg_m ?_; (repeat (first | (refine ql_plain rfl rfl ?_; intro K hK; go_big_quiet_op; go_big_quiet_on) | (refine ql_nilCheck rfl rfl rfl ?_; intro K hK; simp only [Act.put, List.setIfInBounds_toArray, List.set_cons_succ, List.set_cons_zero]; go_big_quiet_on) | fail | (refine ql_skip rfl ?_; intro K hK; simp only [Act.put, List.setIfInBounds_toArray, List.set_cons_succ, List.set_cons_zero]; go_big_quiet_on))); refine ql_nil ?_)
  (refine sg_call (f := 39) (LiF B H) (LiS H) rfl (LiF.shp B H) (LiF.stable B H) (fun d => hw2.out _ (by (repeat (first | exact Ext.refl _ | assumption | refine Ext.alloc ?_ _ | refine Ext.ext ?_ _ | refine Ext.drew ?_)))) (by simp only [List.getElem?_toArray, List.getElem?_cons_succ, List.getElem?_cons_zero]; try exact rfl) rfl rfl Try.func39 rfl (by kernel_rfl) rfl ?_; intro u hu hS K hK; obtain ⟨ha1, hc1, rfl⟩ := hS; simp only [Act.put, List.setIfInBounds_toArray, List.set_cons_succ, List.set_cons_zero]; refine hK _ ?_; clear hK K)
  (refine sg_last ?_; (repeat (first | (refine ql_plain rfl rfl ?_; intro K hK; go_big_quiet_op; go_big_quiet_on) | (refine ql_nilCheck rfl rfl rfl ?_; intro K hK; simp only [Act.put, List.setIfInBounds_toArray, List.set_cons_succ, List.set_cons_zero]; go_big_quiet_on) | fail | (refine ql_skip rfl ?_; intro K hK; simp only [Act.put, List.setIfInBounds_toArray, List.set_cons_succ, List.set_cons_zero]; go_big_quiet_on))); refine ql_nil ?_; (repeat (first | (refine pl_plain rfl rfl ?_; intro K hK; go_big_quiet_op; go_big_quiet_on) | (refine pl_nilCheck rfl rfl rfl ?_; intro K hK; simp only [Act.put, List.setIfInBounds_toArray, List.set_cons_succ, List.set_cons_zero]; go_big_quiet_on))); refine pl_nil ?_)
  rintro w1 ⟨d, rfl⟩ ⟨⟨_, f1⟩, f2⟩
  have hz : ((((w.alloc (.cells #[.int .i64 a.Members, .slice la n lc, .bool a.Open, .int .i64 a.Eager, .slice ha nh hc, .bool a.Swept, .int .i64 a.Winner, .bool a.Done] 24)).alloc (.cells #[.int .i64 0, .slice none 0 0, .bool false, .int .i64 0, .slice none 0 0, .bool false, .int .i64 0, .bool false] 24)).alloc (.cells #[.int .i64 m, .bool false] 45)).ext d).heap[w.heap.size]? = some (.cells #[.int .i64 a.Members, .slice la n lc, .bool a.Open, .int .i64 a.Eager, .slice ha nh hc, .bool a.Swept, .int .i64 a.Winner, .bool a.Done] 24) := heap_ext1 (heap_alloc1 (heap_alloc1 (heap_new _ _ rfl)))
  have wL := Lib.hid fun z => f1.use.turnA (w' := ((((w.alloc (.cells z 24)).alloc (.cells #[.int .i64 0, .slice none 0 0, .bool false, .int .i64 0, .slice none 0 0, .bool false, .int .i64 0, .bool false] 24)).alloc (.cells #[.int .i64 m, .bool false] 45)).ext d)) (b := w.heap.size) (by (repeat (first | exact Like.refl _ _ | refine Like.ext ?_ _ | refine Like.alloc ?_ _ | refine Like.swap ?_ (by simp <;> omega) _ _))) hz
  have wH := Lib.hid fun z => f2.use.turnA (w' := ((((w.alloc (.cells z 24)).alloc (.cells #[.int .i64 0, .slice none 0 0, .bool false, .int .i64 0, .slice none 0 0, .bool false, .int .i64 0, .bool false] 24)).alloc (.cells #[.int .i64 m, .bool false] 45)).ext d)) (b := w.heap.size) (by (repeat (first | exact Like.refl _ _ | refine Like.ext ?_ _ | refine Like.alloc ?_ _ | refine Like.swap ?_ (by simp <;> omega) _ _))) hz
  clear f1 f2 hz hw1 hw2
  go_wp2; refine only_normal ?_
  obtain ⟨E, hE⟩ : ∃ E, E = if a.Eager = m then -1 else a.Eager := ⟨_, rfl⟩
  go_upto_if 24 with fail
  go_cut [] (fun wc => wc = ((((w.alloc (.cells #[.int .i64 a.Members, .slice la1 L.length lc1, .bool a.Open, .int .i64 E, .slice ha1 H.length hc1, .bool a.Swept, .int .i64 a.Winner, .bool a.Done] 24)).alloc (.cells #[.int .i64 0, .slice none 0 0, .bool false, .int .i64 0, .slice none 0 0, .bool false, .int .i64 0, .bool false] 24)).alloc (.cells #[.int .i64 m, .bool false] 45)).ext d))
  case first =>
    rcases he : (a.Eager == m) with _ | _
    focus
      have hE2 : E = a.Eager := by rw [hE, if_neg (by simpa using he)]
      subst hE2
      clear hE
      go_wp2
      go_meet
      case rel => rfl
    focus
      have hE2 : E = -1 := by rw [hE, if_pos (by simpa using he)]
      subst hE2
      clear hE
      go_wp2
      go_meet
      case rel => rfl
  case rest =>
    rw [hcut]
    clear hcut wc
    have vL := Lib.hid (wL.out #[.int .i64 a.Members, .slice la1 L.length lc1, .bool a.Open, .int .i64 E, .slice ha1 H.length hc1, .bool a.Swept, .int .i64 a.Winner, .bool a.Done])
    have vH := Lib.hid (wH.out #[.int .i64 a.Members, .slice la1 L.length lc1, .bool a.Open, .int .i64 E, .slice ha1 H.length hc1, .bool a.Swept, .int .i64 a.Winner, .bool a.Done])
    clear wL wH
    replace hE := Lib.hid hE
    cases ho : a.Open
    rotate_left
    focus
      rw [ho] at vL vH
      have hq : quit a m = (⟨a.Members, L, true, E, H, a.Swept, a.Winner, a.Done⟩, [⟨m, false⟩]) := by
        rw [hL.out, hH.out, hE.out]; simp [quit, ho]
      replace hZ := hZ.out.trans hq
      subst hZ
      clear hq hE hne hL hH hn hnh
      have hz : ((((w.alloc (.cells #[.int .i64 a.Members, .slice la1 L.length lc1, .bool true, .int .i64 E, .slice ha1 H.length hc1, .bool a.Swept, .int .i64 a.Winner, .bool a.Done] 24)).alloc (.cells #[.int .i64 0, .slice none 0 0, .bool false, .int .i64 0, .slice none 0 0, .bool false, .int .i64 0, .bool false] 24)).alloc (.cells #[.int .i64 m, .bool false] 45)).ext d).heap[w.heap.size + 1]? = some (.cells #[.int .i64 0, .slice none 0 0, .bool false, .int .i64 0, .slice none 0 0, .bool false, .int .i64 0, .bool false] 24) := heap_ext1 (heap_alloc1 (heap_new _ _ (by simp)))
      have xL := Lib.hid (vL.out.turnA (w' := ((((w.alloc (.cells #[.int .i64 a.Members, .slice la1 L.length lc1, .bool true, .int .i64 E, .slice ha1 H.length hc1, .bool a.Swept, .int .i64 a.Winner, .bool a.Done] 24)).alloc (.cells #[.int .i64 a.Members, .slice la1 L.length lc1, .bool true, .int .i64 E, .slice ha1 H.length hc1, .bool a.Swept, .int .i64 a.Winner, .bool a.Done] 24)).alloc (.cells #[.int .i64 m, .bool false] 45)).ext d)) (b := w.heap.size + 1) (by (repeat (first | exact Like.refl _ _ | refine Like.ext ?_ _ | refine Like.alloc ?_ _ | refine Like.swap ?_ (by simp <;> omega) _ _))) hz)
      have xH := Lib.hid (vH.out.turnA (w' := ((((w.alloc (.cells #[.int .i64 a.Members, .slice la1 L.length lc1, .bool true, .int .i64 E, .slice ha1 H.length hc1, .bool a.Swept, .int .i64 a.Winner, .bool a.Done] 24)).alloc (.cells #[.int .i64 a.Members, .slice la1 L.length lc1, .bool true, .int .i64 E, .slice ha1 H.length hc1, .bool a.Swept, .int .i64 a.Winner, .bool a.Done] 24)).alloc (.cells #[.int .i64 m, .bool false] 45)).ext d)) (b := w.heap.size + 1) (by (repeat (first | exact Like.refl _ _ | refine Like.ext ?_ _ | refine Like.alloc ?_ _ | refine Like.swap ?_ (by simp <;> omega) _ _))) hz)
      have xO : Hid (OV ((((w.alloc (.cells #[.int .i64 a.Members, .slice la1 L.length lc1, .bool true, .int .i64 E, .slice ha1 H.length hc1, .bool a.Swept, .int .i64 a.Winner, .bool a.Done] 24)).alloc (.cells #[.int .i64 a.Members, .slice la1 L.length lc1, .bool true, .int .i64 E, .slice ha1 H.length hc1, .bool a.Swept, .int .i64 a.Winner, .bool a.Done] 24)).alloc (.cells #[.int .i64 m, .bool false] 45)).ext d) (some ⟨w.heap.size + 1 + 1, 0, none⟩) 1 [⟨m, false⟩]) := Lib.hid ⟨rfl, .inr ⟨_, 1, #[.int .i64 m, .bool false], rfl, Nat.zero_le _, heap_ext1 (heap_new _ _ (by simp)), Nat.le_refl _, by decide, rfl, rfl⟩⟩
      clear vL vH hz
      go_wp2
      (refine bodyPost_ret (v := ?_) (by simp [results, Try.results37, go_sem]; rfl) rfl ?_)
      refine ⟨_, rfl, ?_, ⟨la1, lc1, ha1, hc1, _, _, rfl, xL.out, xH.out, xO.out⟩⟩
      (repeat (first | exact Ext.refl _ | assumption | refine Ext.alloc ?_ _ | refine Ext.ext ?_ _ | refine Ext.drew ?_))
    rw [ho] at vL vH
    obtain ⟨q, hq⟩ : ∃ q, q = (if L.length = 1 then decideA ⟨a.Members, L, false, E, H, a.Swept, a.Winner, a.Done⟩ (L.headD 0) else settle ⟨a.Members, L, false, E, H, a.Swept, a.Winner, a.Done⟩) := ⟨_, rfl⟩
    have hquit : quit a m = (q.1, ⟨m, false⟩ :: q.2) := by
      rw [hq, hL.out, hH.out, hE.out]; simp [quit, ho]
    have hLn : L ≠ [] := by rw [hL.out]; exact hne.out ho
    have hLl : L.length ≤ 1000000 := by rw [hL.out]; have := without_len a.Left m; have := hll.out; omega
    have hql : q.2.length ≤ 1000000 := by
      rw [hq]
      split
      · simpa [decideA] using hLl
      · exact Nat.le_trans (settle_len _) hLl
    replace hZ := hZ.out.trans hquit
    subst hZ
    clear hquit hE hne hL hH hn hnh ho hll
    have hz : ((((w.alloc (.cells #[.int .i64 a.Members, .slice la1 L.length lc1, .bool false, .int .i64 E, .slice ha1 H.length hc1, .bool a.Swept, .int .i64 a.Winner, .bool a.Done] 24)).alloc (.cells #[.int .i64 0, .slice none 0 0, .bool false, .int .i64 0, .slice none 0 0, .bool false, .int .i64 0, .bool false] 24)).alloc (.cells #[.int .i64 m, .bool false] 45)).ext d).heap[w.heap.size]? = some (.cells #[.int .i64 a.Members, .slice la1 L.length lc1, .bool false, .int .i64 E, .slice ha1 H.length hc1, .bool a.Swept, .int .i64 a.Winner, .bool a.Done] 24) := heap_ext1 (heap_alloc1 (heap_alloc1 (heap_new _ _ rfl)))
    go_upto_if 33 with fail
    go_cut [7] (fun v7 wc => ∃ (la' ha' va : Option Addr) (lc' hc' vc : Nat) (D : Grow), v7 = .slice va q.2.length vc ∧ wc = ((((w.alloc (.cells #[.int .i64 (q.1).Members, .slice la' (q.1).Left.length lc', .bool (q.1).Open, .int .i64 (q.1).Eager, .slice ha' (q.1).Holds.length hc', .bool (q.1).Swept, .int .i64 (q.1).Winner, .bool (q.1).Done] 24)).alloc (.cells #[.int .i64 0, .slice none 0 0, .bool false, .int .i64 0, .slice none 0 0, .bool false, .int .i64 0, .bool false] 24)).alloc (.cells #[.int .i64 m, .bool false] 45)).ext D) ∧ Hid (OI B wc la' lc' q.1.Left) ∧ Hid (OI B wc ha' hc' q.1.Holds) ∧ Hid (OV wc va vc q.2))
    case first =>
      rcases hl1 : ((L.length : Int) == 1) with _ | _
      focus
        rw [if_neg (by simp at hl1; omega)] at hq
        have hs := Lib.hid (settle_ok ⟨a.Members, L, false, E, H, a.Swept, a.Winner, a.Done⟩ la1 ha1 lc1 hc1 _ hLl vL.out vH.out (fun _ _ => hLn))
        rw [← hq] at hs
        clear hq hLn hLl vL vH
        go_wp2_with fail
        refine Calls.mono hs.out ?_
        rintro _ _ ⟨u, rfl, ⟨d2, rfl⟩, ⟨la', lc', ha', hc', va, vc, rfl, u1, u2, u3⟩⟩
        have hz2 := heap_ext1 (d := d2) hz
        have x1 := Lib.hid (u1.turnA (w' := ((((w.alloc (.cells #[.int .i64 (q.1).Members, .slice la' (q.1).Left.length lc', .bool (q.1).Open, .int .i64 (q.1).Eager, .slice ha' (q.1).Holds.length hc', .bool (q.1).Swept, .int .i64 (q.1).Winner, .bool (q.1).Done] 24)).alloc (.cells #[.int .i64 0, .slice none 0 0, .bool false, .int .i64 0, .slice none 0 0, .bool false, .int .i64 0, .bool false] 24)).alloc (.cells #[.int .i64 m, .bool false] 45)).ext d).ext d2) (b := w.heap.size) (by (repeat (first | exact Like.refl _ _ | refine Like.ext ?_ _ | refine Like.alloc ?_ _ | refine Like.swap ?_ (by simp <;> omega) _ _))) hz2)
        have x2 := Lib.hid (u2.turnA (w' := ((((w.alloc (.cells #[.int .i64 (q.1).Members, .slice la' (q.1).Left.length lc', .bool (q.1).Open, .int .i64 (q.1).Eager, .slice ha' (q.1).Holds.length hc', .bool (q.1).Swept, .int .i64 (q.1).Winner, .bool (q.1).Done] 24)).alloc (.cells #[.int .i64 0, .slice none 0 0, .bool false, .int .i64 0, .slice none 0 0, .bool false, .int .i64 0, .bool false] 24)).alloc (.cells #[.int .i64 m, .bool false] 45)).ext d).ext d2) (b := w.heap.size) (by (repeat (first | exact Like.refl _ _ | refine Like.ext ?_ _ | refine Like.alloc ?_ _ | refine Like.swap ?_ (by simp <;> omega) _ _))) hz2)
        have x3 := Lib.hid (u3.turnA (w' := ((((w.alloc (.cells #[.int .i64 (q.1).Members, .slice la' (q.1).Left.length lc', .bool (q.1).Open, .int .i64 (q.1).Eager, .slice ha' (q.1).Holds.length hc', .bool (q.1).Swept, .int .i64 (q.1).Winner, .bool (q.1).Done] 24)).alloc (.cells #[.int .i64 0, .slice none 0 0, .bool false, .int .i64 0, .slice none 0 0, .bool false, .int .i64 0, .bool false] 24)).alloc (.cells #[.int .i64 m, .bool false] 45)).ext d).ext d2) (b := w.heap.size) (by (repeat (first | exact Like.refl _ _ | refine Like.ext ?_ _ | refine Like.alloc ?_ _ | refine Like.swap ?_ (by simp <;> omega) _ _))) hz2)
        clear u1 u2 u3 hz hz2 hs
        go_wp2
        go_meet
        case rel => exact ⟨la', ha', va, lc', hc', vc, d.add d2, rfl, World.ext_ext _ _ _, x1, x2, x3⟩
      focus
        have hl1' : L.length = 1 := by simp at hl1; omega
        rw [if_pos hl1'] at hq
        obtain ⟨g, rfl, c0, hgl⟩ := vL.out.head hLn
        simp only [World.size_ext, World.size_alloc] at hgl
        have hd := Lib.hid fun w' (he : Ext _ w') => dec_mk B ⟨a.Members, L, false, E, H, a.Swept, a.Winner, a.Done⟩ (L.headD 0) (some ⟨g, 0, none⟩) ha1 lc1 hc1 w' hLl (vL.out.rep.ext he)
        obtain ⟨x0, hx0⟩ : ∃ x0, x0 = L.headD 0 := ⟨_, rfl⟩
        rw [← hx0] at hd c0 hq
        rw [← hq] at hd
        have hpos : 0 < L.length := by omega
        replace hl1' := Lib.hid hl1'
        clear hq hLn hLl vL vH hx0
        go_wp2
        (refine wp_region_segs (fun i => if i = 5 then some (ArF B q, ArS q) else none) [([0, 1, 2, 3, 4], .m, 5)] [6, 7] [8] [9, 10] (by kernel_rfl) (by kernel_rfl) (by simp only [List.map_cons, List.map_nil, List.filterMap_cons, List.filterMap_nil, List.getElem?_toArray, List.getElem?_cons_succ, List.getElem?_cons_zero]; try exact rfl) (by simp only [List.filterMap_cons, List.filterMap_nil, List.getElem?_toArray, List.getElem?_cons_succ, List.getElem?_cons_zero]; try exact rfl) (by simp only [List.filterMap_cons, List.filterMap_nil, List.getElem?_toArray, List.getElem?_cons_succ, List.getElem?_cons_zero]; try exact rfl) (by simp only [List.filterMap_cons, List.filterMap_nil, List.getElem?_toArray, List.getElem?_cons_succ, List.getElem?_cons_zero]; try exact rfl) (by decide) ?_)
        (refine sg_m ?_; (repeat (first | (refine ql_plain rfl rfl ?_; intro K hK; go_big_quiet_op; go_big_quiet_on) | (refine ql_nilCheck rfl rfl rfl ?_; intro K hK; simp only [Act.put, List.setIfInBounds_toArray, List.set_cons_succ, List.set_cons_zero]; go_big_quiet_on) | fail | (refine ql_skip rfl ?_; intro K hK; simp only [Act.put, List.setIfInBounds_toArray, List.set_cons_succ, List.set_cons_zero]; go_big_quiet_on))); refine ql_nil ?_)
        (refine sg_call (f := 36) (ArF B q) (ArS q) rfl (ArF.shp B q) (ArF.stable B q) (fun d => hd.out _ (by (repeat (first | exact Ext.refl _ | assumption | refine Ext.alloc ?_ _ | refine Ext.ext ?_ _ | refine Ext.drew ?_)))) (by simp only [List.getElem?_toArray, List.getElem?_cons_succ, List.getElem?_cons_zero]; try exact rfl) rfl rfl Try.func36 rfl (by kernel_rfl) rfl ?_; intro u hu hS K hK; obtain ⟨la', lc', ha', hc', va, vc, rfl⟩ := hS; simp only [Act.put, List.setIfInBounds_toArray, List.set_cons_succ, List.set_cons_zero]; refine hK _ ?_; clear hK K)
        (refine sg_last ?_; (repeat (first | (refine ql_plain rfl rfl ?_; intro K hK; go_big_quiet_op; go_big_quiet_on) | (refine ql_nilCheck rfl rfl rfl ?_; intro K hK; simp only [Act.put, List.setIfInBounds_toArray, List.set_cons_succ, List.set_cons_zero]; go_big_quiet_on) | fail | (refine ql_skip rfl ?_; intro K hK; simp only [Act.put, List.setIfInBounds_toArray, List.set_cons_succ, List.set_cons_zero]; go_big_quiet_on))); refine ql_nil ?_; (repeat (first | (refine pl_plain rfl rfl ?_; intro K hK; go_big_quiet_op; go_big_quiet_on) | (refine pl_nilCheck rfl rfl rfl ?_; intro K hK; simp only [Act.put, List.setIfInBounds_toArray, List.set_cons_succ, List.set_cons_zero]; go_big_quiet_on))); refine pl_nil ?_)
        rintro w1 ⟨d2, rfl⟩ ⟨_, hf⟩
        obtain ⟨u1, u2, u3⟩ := ArF.use hf
        have hz2 := heap_ext1 (d := d2) hz
        have x1 := Lib.hid (u1.turnA (w' := ((((w.alloc (.cells #[.int .i64 (q.1).Members, .slice la' (q.1).Left.length lc', .bool (q.1).Open, .int .i64 (q.1).Eager, .slice ha' (q.1).Holds.length hc', .bool (q.1).Swept, .int .i64 (q.1).Winner, .bool (q.1).Done] 24)).alloc (.cells #[.int .i64 0, .slice none 0 0, .bool false, .int .i64 0, .slice none 0 0, .bool false, .int .i64 0, .bool false] 24)).alloc (.cells #[.int .i64 m, .bool false] 45)).ext d).ext d2) (b := w.heap.size) (by (repeat (first | exact Like.refl _ _ | refine Like.ext ?_ _ | refine Like.alloc ?_ _ | refine Like.swap ?_ (by simp <;> omega) _ _))) hz2)
        have x2 := Lib.hid (u2.turnA (w' := ((((w.alloc (.cells #[.int .i64 (q.1).Members, .slice la' (q.1).Left.length lc', .bool (q.1).Open, .int .i64 (q.1).Eager, .slice ha' (q.1).Holds.length hc', .bool (q.1).Swept, .int .i64 (q.1).Winner, .bool (q.1).Done] 24)).alloc (.cells #[.int .i64 0, .slice none 0 0, .bool false, .int .i64 0, .slice none 0 0, .bool false, .int .i64 0, .bool false] 24)).alloc (.cells #[.int .i64 m, .bool false] 45)).ext d).ext d2) (b := w.heap.size) (by (repeat (first | exact Like.refl _ _ | refine Like.ext ?_ _ | refine Like.alloc ?_ _ | refine Like.swap ?_ (by simp <;> omega) _ _))) hz2)
        have x3 := Lib.hid (u3.turnA (w' := ((((w.alloc (.cells #[.int .i64 (q.1).Members, .slice la' (q.1).Left.length lc', .bool (q.1).Open, .int .i64 (q.1).Eager, .slice ha' (q.1).Holds.length hc', .bool (q.1).Swept, .int .i64 (q.1).Winner, .bool (q.1).Done] 24)).alloc (.cells #[.int .i64 0, .slice none 0 0, .bool false, .int .i64 0, .slice none 0 0, .bool false, .int .i64 0, .bool false] 24)).alloc (.cells #[.int .i64 m, .bool false] 45)).ext d).ext d2) (b := w.heap.size) (by (repeat (first | exact Like.refl _ _ | refine Like.ext ?_ _ | refine Like.alloc ?_ _ | refine Like.swap ?_ (by simp <;> omega) _ _))) hz2)
        clear u1 u2 u3 hz hz2 hd hf
        go_wp2; refine only_normal ?_
        go_wp2
        go_meet
        case rel => exact ⟨la', ha', va, lc', hc', vc, d.add d2, rfl, World.ext_ext _ _ _, x1, x2, x3⟩
    case rest =>
      obtain ⟨la', ha', va, lc', hc', vc, D, rfl, hwc, x1, x2, x3⟩ := hcut
      subst hwc
      clear hz vL vH hLn hLl hq d
      obtain ⟨q1, vs⟩ := q
      simp only at x1 x2 x3 hql ⊢
      have hvs := hql
      have hz : ((((w.alloc (.cells #[.int .i64 (q1).Members, .slice la' (q1).Left.length lc', .bool (q1).Open, .int .i64 (q1).Eager, .slice ha' (q1).Holds.length hc', .bool (q1).Swept, .int .i64 (q1).Winner, .bool (q1).Done] 24)).alloc (.cells #[.int .i64 0, .slice none 0 0, .bool false, .int .i64 0, .slice none 0 0, .bool false, .int .i64 0, .bool false] 24)).alloc (.cells #[.int .i64 m, .bool false] 45)).ext D).heap[w.heap.size + 1]? = some (.cells #[.int .i64 0, .slice none 0 0, .bool false, .int .i64 0, .slice none 0 0, .bool false, .int .i64 0, .bool false] 24) := heap_ext1 (heap_alloc1 (heap_new _ _ (by simp)))
      by_cases hv0 : vs = []
      focus
        subst hv0
        have y1 := Lib.hid (x1.out.turnA (w' := ((((w.alloc (.cells #[.int .i64 (q1).Members, .slice la' (q1).Left.length lc', .bool (q1).Open, .int .i64 (q1).Eager, .slice ha' (q1).Holds.length hc', .bool (q1).Swept, .int .i64 (q1).Winner, .bool (q1).Done] 24)).alloc (.cells #[.int .i64 (q1).Members, .slice la' (q1).Left.length lc', .bool (q1).Open, .int .i64 (q1).Eager, .slice ha' (q1).Holds.length hc', .bool (q1).Swept, .int .i64 (q1).Winner, .bool (q1).Done] 24)).alloc (.cells #[.int .i64 m, .bool false] 45)).ext D)) (b := w.heap.size + 1) (by (repeat (first | exact Like.refl _ _ | refine Like.ext ?_ _ | refine Like.alloc ?_ _ | refine Like.swap ?_ (by simp <;> omega) _ _))) hz)
        have y2 := Lib.hid (x2.out.turnA (w' := ((((w.alloc (.cells #[.int .i64 (q1).Members, .slice la' (q1).Left.length lc', .bool (q1).Open, .int .i64 (q1).Eager, .slice ha' (q1).Holds.length hc', .bool (q1).Swept, .int .i64 (q1).Winner, .bool (q1).Done] 24)).alloc (.cells #[.int .i64 (q1).Members, .slice la' (q1).Left.length lc', .bool (q1).Open, .int .i64 (q1).Eager, .slice ha' (q1).Holds.length hc', .bool (q1).Swept, .int .i64 (q1).Winner, .bool (q1).Done] 24)).alloc (.cells #[.int .i64 m, .bool false] 45)).ext D)) (b := w.heap.size + 1) (by (repeat (first | exact Like.refl _ _ | refine Like.ext ?_ _ | refine Like.alloc ?_ _ | refine Like.swap ?_ (by simp <;> omega) _ _))) hz)
        have y3 : Hid (OV ((((w.alloc (.cells #[.int .i64 (q1).Members, .slice la' (q1).Left.length lc', .bool (q1).Open, .int .i64 (q1).Eager, .slice ha' (q1).Holds.length hc', .bool (q1).Swept, .int .i64 (q1).Winner, .bool (q1).Done] 24)).alloc (.cells #[.int .i64 (q1).Members, .slice la' (q1).Left.length lc', .bool (q1).Open, .int .i64 (q1).Eager, .slice ha' (q1).Holds.length hc', .bool (q1).Swept, .int .i64 (q1).Winner, .bool (q1).Done] 24)).alloc (.cells #[.int .i64 m, .bool false] 45)).ext D) (some ⟨w.heap.size + 1 + 1, 0, none⟩) 1 [⟨m, false⟩]) := Lib.hid ⟨rfl, .inr ⟨_, 1, #[.int .i64 m, .bool false], rfl, Nat.zero_le _, heap_ext1 (heap_new _ _ (by simp)), Nat.le_refl _, by decide, rfl, rfl⟩⟩
        clear x1 x2 x3 hz
        rcases va with _ | va
        all_goals
          go_wp2_with fail
          go_region
          go_wp2
          (refine bodyPost_ret (v := ?_) (by simp [results, Try.results37, go_sem]; rfl) rfl ?_)
          refine ⟨_, rfl, ?_, ⟨la', lc', ha', hc', _, _, rfl, y1.out.ext ?_, y2.out.ext ?_, y3.out.ext ?_⟩⟩ <;> (repeat (first | exact Ext.refl _ | assumption | refine Ext.alloc ?_ _ | refine Ext.ext ?_ _ | refine Ext.drew ?_))
      have hpos := List.length_pos_iff.2 hv0
      obtain ⟨gv, cv, ⟨rfl, rfl⟩, hnews⟩ : ∃ gv cv, (va = some ⟨gv, 0, none⟩ ∧ vc = cv) ∧ ∀ j u, (vs.flatMap vdL)[j]? = some u → ((((w.alloc (.cells #[.int .i64 (q1).Members, .slice la' (q1).Left.length lc', .bool (q1).Open, .int .i64 (q1).Eager, .slice ha' (q1).Holds.length hc', .bool (q1).Swept, .int .i64 (q1).Winner, .bool (q1).Done] 24)).alloc (.cells #[.int .i64 0, .slice none 0 0, .bool false, .int .i64 0, .slice none 0 0, .bool false, .int .i64 0, .bool false] 24)).alloc (.cells #[.int .i64 m, .bool false] 45)).ext D).cell? ((⟨gv, 0, none⟩ : Addr).add j) = some u := by
        rcases x3.out.2 with ⟨_, h0⟩ | ⟨g, cap, cur, hv, _, hg, _, _, _, ht⟩
        · omega
        · simp only [Value.slice.injEq] at hv
          refine ⟨g, cap, ⟨hv.1, hv.2.2⟩, fun j u hu => ?_⟩
          rw [Addr.add_lit, Nat.zero_add, heap_cell hg, ← Array.getElem?_toList]
          rw [← ht] at hu
          rw [List.getElem?_take] at hu
          split at hu
          · exact hu
          · cases hu
      have hol : Hid (∀ j u, ([.int .i64 m, .bool false] : List Value)[j]? = some u → ((((w.alloc (.cells #[.int .i64 (q1).Members, .slice la' (q1).Left.length lc', .bool (q1).Open, .int .i64 (q1).Eager, .slice ha' (q1).Holds.length hc', .bool (q1).Swept, .int .i64 (q1).Winner, .bool (q1).Done] 24)).alloc (.cells #[.int .i64 0, .slice none 0 0, .bool false, .int .i64 0, .slice none 0 0, .bool false, .int .i64 0, .bool false] 24)).alloc (.cells #[.int .i64 m, .bool false] 45)).ext D).cell? ((⟨w.heap.size + 1 + 1, 0, none⟩ : Addr).add j) = some u) := Lib.hid (cells_at2 (heap_ext1 (heap_new _ _ (by simp))) rfl)
      have hvl : Hid ((vs.flatMap vdL).length = vs.length * 2) := Lib.hid x3.out.1
      have hv1 : vs.length ≤ 1000000 := hvs
      replace hnews := Lib.hid hnews
      have y1 := Lib.hid fun d' => ((x1.out.ext (Ext.ext (Ext.refl _) d')).turnA (w' := ((((w.alloc (.cells #[.int .i64 (q1).Members, .slice la' (q1).Left.length lc', .bool (q1).Open, .int .i64 (q1).Eager, .slice ha' (q1).Holds.length hc', .bool (q1).Swept, .int .i64 (q1).Winner, .bool (q1).Done] 24)).alloc (.cells #[.int .i64 (q1).Members, .slice la' (q1).Left.length lc', .bool (q1).Open, .int .i64 (q1).Eager, .slice ha' (q1).Holds.length hc', .bool (q1).Swept, .int .i64 (q1).Winner, .bool (q1).Done] 24)).alloc (.cells #[.int .i64 m, .bool false] 45)).ext D).ext d') (b := w.heap.size + 1) (by (repeat (first | exact Like.refl _ _ | refine Like.ext ?_ _ | refine Like.alloc ?_ _ | refine Like.swap ?_ (by simp <;> omega) _ _))) (heap_ext1 hz))
      have y2 := Lib.hid fun d' => ((x2.out.ext (Ext.ext (Ext.refl _) d')).turnA (w' := ((((w.alloc (.cells #[.int .i64 (q1).Members, .slice la' (q1).Left.length lc', .bool (q1).Open, .int .i64 (q1).Eager, .slice ha' (q1).Holds.length hc', .bool (q1).Swept, .int .i64 (q1).Winner, .bool (q1).Done] 24)).alloc (.cells #[.int .i64 (q1).Members, .slice la' (q1).Left.length lc', .bool (q1).Open, .int .i64 (q1).Eager, .slice ha' (q1).Holds.length hc', .bool (q1).Swept, .int .i64 (q1).Winner, .bool (q1).Done] 24)).alloc (.cells #[.int .i64 m, .bool false] 45)).ext D).ext d') (b := w.heap.size + 1) (by (repeat (first | exact Like.refl _ _ | refine Like.ext ?_ _ | refine Like.alloc ?_ _ | refine Like.swap ?_ (by simp <;> omega) _ _))) (heap_ext1 hz))
      obtain ⟨n, hn⟩ : ∃ n, n = vs.length := ⟨_, rfl⟩
      rw [← hn] at hvl hv1 hpos ⊢
      replace hn := Lib.hid hn
      replace hz := Lib.hid hz
      clear x1 x2 x3 hv0
      go_wp2_with fail
      (refine wp_region_segs (fun i => if i = 3 then some (AppF 0 45 2 (1 + n) ([.int .i64 m, .bool false] ++ vs.flatMap vdL), AppS (1 + n)) else none) [([0, 1, 2], .m, 3)] [] [] [4, 5] (by kernel_rfl) (by kernel_rfl) (by simp only [List.map_cons, List.map_nil, List.filterMap_cons, List.filterMap_nil, List.getElem?_toArray, List.getElem?_cons_succ, List.getElem?_cons_zero]; try exact rfl) (by simp only [List.filterMap_cons, List.filterMap_nil, List.getElem?_toArray, List.getElem?_cons_succ, List.getElem?_cons_zero]; try exact rfl) (by simp only [List.filterMap_cons, List.filterMap_nil, List.getElem?_toArray, List.getElem?_cons_succ, List.getElem?_cons_zero]; try exact rfl) (by simp only [List.filterMap_cons, List.filterMap_nil, List.getElem?_toArray, List.getElem?_cons_succ, List.getElem?_cons_zero]; try exact rfl) (by decide) ?_)
      (refine sg_m ?_; (repeat (first | (refine ql_plain rfl rfl ?_; intro K hK; go_big_quiet_op; go_big_quiet_on) | (refine ql_nilCheck rfl rfl rfl ?_; intro K hK; simp only [Act.put, List.setIfInBounds_toArray, List.set_cons_succ, List.set_cons_zero]; go_big_quiet_on) | fail | (refine ql_skip rfl ?_; intro K hK; simp only [Act.put, List.setIfInBounds_toArray, List.set_cons_succ, List.set_cons_zero]; go_big_quiet_on))); refine ql_nil ?_)
      (refine sg_run (AppF 0 45 2 (1 + n) ([.int .i64 m, .bool false] ++ vs.flatMap vdL)) (AppS (1 + n)) rfl AppF.shp (AppF.stable _ _ _ _ _) (by simp only [List.getElem?_toArray, List.getElem?_cons_succ, List.getElem?_cons_zero]; try exact rfl) rfl (fun d => (app_grow _ _ 30 45 _ 2 16 infoV Try.underlying30 rfl (by decide) ⟨w.heap.size + 1 + 1, 0, none⟩ 1 1 [.int .i64 m, .bool false] rfl (fun j u hu => (Ext.ext (Ext.refl _) d).cell_some (hol.out j u hu)) ⟨gv, 0, none⟩ n _ (vs.flatMap vdL) hvl.out (fun j u hu => (Ext.ext (Ext.refl _) d).cell_some (hnews.out j u hu)) (by omega) (by unfold maxLen; omega) (by omega) rfl rfl rfl)) ?_; intro u hu hS K hK; obtain ⟨ra, rc, rfl⟩ := hS; simp only [Act.put, List.setIfInBounds_toArray, List.set_cons_succ, List.set_cons_zero]; refine hK _ ?_; clear hK K)
      (refine sg_last ?_; (repeat (first | (refine ql_plain rfl rfl ?_; intro K hK; go_big_quiet_op; go_big_quiet_on) | (refine ql_nilCheck rfl rfl rfl ?_; intro K hK; simp only [Act.put, List.setIfInBounds_toArray, List.set_cons_succ, List.set_cons_zero]; go_big_quiet_on) | fail | (refine ql_skip rfl ?_; intro K hK; simp only [Act.put, List.setIfInBounds_toArray, List.set_cons_succ, List.set_cons_zero]; go_big_quiet_on))); refine ql_nil ?_; (repeat (first | (refine pl_plain rfl rfl ?_; intro K hK; go_big_quiet_op; go_big_quiet_on) | (refine pl_nilCheck rfl rfl rfl ?_; intro K hK; simp only [Act.put, List.setIfInBounds_toArray, List.set_cons_succ, List.set_cons_zero]; go_big_quiet_on))); refine pl_nil ?_)
      rintro w1 ⟨d2, rfl⟩ ⟨_, hf⟩
      obtain ⟨gg, cc, hu, ho⟩ := hf
      simp only [Value.slice.injEq, true_and] at hu
      obtain ⟨rfl, rfl⟩ := hu
      have y3 := Lib.hid (ownsRow_like ho (Y := ((((w.alloc (.cells #[.int .i64 (q1).Members, .slice la' (q1).Left.length lc', .bool (q1).Open, .int .i64 (q1).Eager, .slice ha' (q1).Holds.length hc', .bool (q1).Swept, .int .i64 (q1).Winner, .bool (q1).Done] 24)).alloc (.cells #[.int .i64 (q1).Members, .slice la' (q1).Left.length lc', .bool (q1).Open, .int .i64 (q1).Eager, .slice ha' (q1).Holds.length hc', .bool (q1).Swept, .int .i64 (q1).Winner, .bool (q1).Done] 24)).alloc (.cells #[.int .i64 m, .bool false] 45)).ext D).ext d2) (S := fun k => k = w.heap.size + 1) (by (repeat (first | exact Like.refl _ _ | refine Like.ext ?_ _ | refine Like.alloc ?_ _ | refine Like.swap ?_ (by simp <;> omega) _ _))) (own_other ho (heap_ext1 hz.out) (by decide)))
      have hlen : Hid ((⟨m, false⟩ :: vs : List Vd).length = 1 + n) := Lib.hid (by have := hn.out; simp; omega)
      clear ho hol hvl hnews
      go_wp2; refine only_normal ?_
      go_wp2
      (refine bodyPost_ret (v := ?_) (by simp [results, Try.results37, go_sem]; rfl) rfl ?_)
      refine ⟨_, rfl, ?_, ⟨la', lc', ha', hc', _, _, by rw [hlen.out], y1.out _, y2.out _, ?_⟩⟩
      · (repeat (first | exact Ext.refl _ | assumption | refine Ext.alloc ?_ _ | refine Ext.ext ?_ _ | refine Ext.drew ?_))
      · unfold OV; rw [hlen.out]; exact y3.out
end Go.Proofs.Ytcnmljpabmgieaa.R
