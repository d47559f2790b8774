/- slices.Delete of the one touch; lift. lift. still. throw. -/
import Derived.Test.YtendgmnbnnkpnaaUM
import Derived.ArgAppend
import Derived.WalkKit
import Derived.WalkSpells
import Derived.WalkLawsBesides
import Derived.Deep.QuietTactic
import Derived.BigQuiet
import Derived.BigRegion
import Derived.Lib.Hide
import Derived.Deep.RegionWith
set_option linter.unusedSimpArgs false
set_option linter.unusedVariables false
namespace Go
theorem wpList_append_zero {P : Program} (w : World) {ops : Array Oper} {rest : List Oper} {o : Oper} {a : Act} {Q : Exit → Act → World → Prop} (s x : Operand) (t e : TypeId) (i : TypeInfo) (hi : P.info? e = some i) (ht : P.underlying t = some (.slice e))
    (b off n cap : Nat) (ad : Addr) (c : Nat) (hcap : n ≤ cap) (hgd : o.guard = none) (ho : o.op = .call { callee := .builtin .append, args := #[s, x], argTypes := #[t, t] }) (hs : a.eval s = .slice (some ⟨b, off, none⟩) n cap) (hx : a.eval x = .slice (some ad) 0 c)
    (h : wpList P ops Q rest (a.put o.dst (.slice (some ⟨b, off, none⟩) n cap)) w) : wpList P ops Q (o :: rest) a w := by
  refine wpList_plain hgd fun K hK => ?_
  have hr := run_append_room_cells (P := P) w t o.type e i ht hi b off n cap ad 0 c [] (by simp) (fun j u h => by cases h) (fun u h => by cases h) (by omega) (fun j h => by cases h) (fun j h => by cases h)
  unfold Oper.wp execOp
  simp only [ho, resolve, invoke, builtin, Sem.run_bind, Sem.run_pure, Result.andThen_ok, List.map_toArray, List.map_cons, List.map_nil, hs, hx, hr]
  exact hK _ _ h
theorem wpList_clear {P : Program} {w w' : World} {ops : Array Oper} {rest : List Oper} {o : Oper} {a : Act} {Q : Exit → Act → World → Prop} (s : Operand) (t : TypeId) (v : Value) (hgd : o.guard = none) (ho : o.op = .call { callee := .builtin .clear, args := #[s], argTypes := #[t] }) (hs : a.eval s = v)
    (hr : (Builtin.clear_ #[t] o.type #[v]).run P w = .ok (.tuple #[]) w') (h : wpList P ops Q rest (a.put o.dst (.tuple #[])) w') : wpList P ops Q (o :: rest) a w := by
  refine wpList_plain hgd fun K hK => ?_
  unfold Oper.wp execOp
  simp only [ho, resolve, invoke, builtin, Sem.run_bind, Sem.run_pure, Result.andThen_ok, List.map_toArray, List.map_cons, List.map_nil, hs, hr]
  exact hK _ _ h
end Go
namespace Go.Proofs.Ytendgmnbnnkpnaa.G
open Go.RowKit
theorem infoT1 : ∃ i, Try.prog.info? 64 = some i ∧ i.zero = some (.agg #[.int .i64 0, .int .i64 0, .int .i64 0, .int .i64 0, .slice none 0 0]) := by
  obtain ⟨i, hi, hz, _⟩ := info_parts infoT
  exact ⟨i, hi, hz⟩
theorem setCells_at (w0 : World) (x y : Grow) (T : TypeId) : ∀ (vs : List Value) (o : Nat) (cur : Array Value), ∃ cur', cur'.size = cur.size ∧ ((((w0.ext x).alloc (.cells cur T)).ext y).setCells (w0.heap.size + x.size) o vs = ((w0.ext x).alloc (.cells cur' T)).ext y)
  | [], _, cur => ⟨cur, rfl, rfl⟩
  | v :: r, o, cur => by
    obtain ⟨cur', h1, h2⟩ := setCells_at w0 x y T r (o + 1) (cur.setIfInBounds o v)
    refine ⟨cur', by simpa using h1, ?_⟩
    rw [← h2]
    simp only [World.setCells]
    rw [World.setCell_ext _ _ _ _ _ (by simp), World.setCell_alloc_at _ _ _ _ _ (World.size_ext w0 x).symm]
theorem clear1 (w0 : World) (x y : Grow) (cur : Array Value) (hs : 5 ≤ cur.size) :
    ∃ cur', cur'.size = cur.size ∧ ∀ k ty, (Builtin.clear_ #[22] ty #[.slice (some ⟨w0.heap.size + x.size, 0, none⟩) 1 k]).run Try.prog (((w0.ext x).alloc (.cells cur 64)).ext y) = .ok (.tuple #[]) (((w0.ext x).alloc (.cells cur' 64)).ext y) := by
  obtain ⟨i, hi, hz⟩ := infoT1
  obtain ⟨cur', h1, h2⟩ := setCells_at w0 x y 64 [.int .i64 0, .int .i64 0, .int .i64 0, .int .i64 0, .slice none 0 0] 0 cur
  refine ⟨cur', h1, fun k ty => ?_⟩
  have hb : (((w0.ext x).alloc (.cells cur 64)).ext y).heap[w0.heap.size + x.size]? = some (.cells cur 64) := heap_at w0 x _ (Ext.ext (Ext.refl _) y)
  have hst := run_storeCells_cells (P := Try.prog) (w0.heap.size + x.size) 0 [.int .i64 0, .int .i64 0, .int .i64 0, .int .i64 0, .slice none 0 0] 0 (((w0.ext x).alloc (.cells cur 64)).ext y)
    (fun j hj => by
      simp only [List.length_cons, List.length_nil] at hj
      simp only [World.cell?, hb, Nat.zero_add]
      have : j < cur.size := by omega
      simp [this])
    (fun j hj => by simp only [World.frozen?, hb]; simp) (by simp [Value.oneCell'])
  rw [h2] at hst
  have hz2 : (zeroValue 64).run Try.prog (((w0.ext x).alloc (.cells cur 64)).ext y) = .ok (.agg #[.int .i64 0, .int .i64 0, .int .i64 0, .int .i64 0, .slice none 0 0]) (((w0.ext x).alloc (.cells cur 64)).ext y) := by
    simp [zeroValue, typeInfo, hi, hz]
  have hzc : (Builtin.zeroCells (Value.agg #[.int .i64 0, .int .i64 0, .int .i64 0, .int .i64 0, .slice none 0 0]).cells 1).toList = [.int .i64 0, .int .i64 0, .int .i64 0, .int .i64 0, .slice none 0 0] := by kernel_rfl
  simp [Builtin.clear_, run_underlying Try.underlying22, hz2, hzc, hst]
set_option maxHeartbeats 1000000 in
theorem delete1 (w0 : World) (x y : Grow) (cur : Array Value) (c : Nat) (hc : 1 ≤ c) (hm : c ≤ maxLen) (hs : cur.size = c * 5) :
    Calls Try.prog 92 #[.slice (some ⟨w0.heap.size + x.size, 0, none⟩) 1 c, .int .i64 0, .int .i64 1] (((w0.ext x).alloc (.cells cur 64)).ext y) fun v w' =>
      v = .returned (.slice (some ⟨w0.heap.size + x.size, 0, none⟩) 0 c) ∧ ∃ (cur' : Array Value), cur'.size = cur.size ∧ Ext (((w0.ext x).alloc (.cells cur' 64)).ext y) w' := by
  obtain ⟨i0, hi0, _⟩ := infoT1
  have hcl := Lib.hid fun y => clear1 w0 x y cur (by omega)
  replace hs := Lib.hid hs
  replace hi0 := Lib.hid hi0
  have hc1 : (c = 1) ∨ ¬ c = 1 := by omega
  rcases hc1 with rfl | h1
  all_goals
    go_enter Try.func92, Try.ntmps92
    go_wp2
    (refine wp_region_calm_ops [0, 1, 2, 3, 4, 5] [] [] [6, 7] (by kernel_rfl) (by kernel_rfl) (by simp only [List.filterMap_cons, List.filterMap_nil, List.getElem?_toArray, List.getElem?_cons_succ, List.getElem?_cons_zero]; try exact rfl) (by simp only [List.filterMap_cons, List.filterMap_nil, List.getElem?_toArray, List.getElem?_cons_succ, List.getElem?_cons_zero]; try exact rfl) (by simp only [List.filterMap_cons, List.filterMap_nil, List.getElem?_toArray, List.getElem?_cons_succ, List.getElem?_cons_zero]; try exact rfl) ?_; (repeat (first | (refine ql_plain rfl rfl ?_; intro K hK; go_big_quiet_op; go_big_quiet_on) | (refine ql_nilCheck rfl rfl rfl ?_; intro K hK; simp only [Act.put, List.setIfInBounds_toArray, List.set_cons_succ, List.set_cons_zero]; go_big_quiet_on) | fail | (refine ql_skip rfl ?_; intro K hK; simp only [Act.put, List.setIfInBounds_toArray, List.set_cons_succ, List.set_cons_zero]; go_big_quiet_on))); refine ql_nil ?_)
    refine mw0 ?_; (repeat (first | (refine pl_plain rfl rfl ?_; intro K hK; go_big_quiet_op; go_big_quiet_on) | (refine pl_nilCheck rfl rfl rfl ?_; intro K hK; simp only [Act.put, List.setIfInBounds_toArray, List.set_cons_succ, List.set_cons_zero]; go_big_quiet_on))); refine pl_nil ?_; rintro w1 ⟨d1, rfl⟩ -
    refine wpList_append_zero _ _ _ 22 64 i0 hi0.out Try.underlying22 _ _ 0 _ _ _ (by omega) rfl rfl rfl rfl ?_
    go_wp2; refine only_normal ?_
    obtain ⟨cur', hc2, hcr⟩ := hcl.out (y.add d1)
    simp only [← World.ext_ext] at hcr
    go_wp2
    go_ret
    refine ⟨rfl, cur', hc2, ?_⟩
    (repeat (first | exact Ext.refl _ | assumption | refine Ext.alloc ?_ _ | refine Ext.ext ?_ _ | refine Ext.drew ?_))
end Go.Proofs.Ytendgmnbnnkpnaa.G
namespace Go.Proofs.Ytendgmnbnnkpnaa.G
open Go.RowKit
theorem ownsRow_keep {w w' : World} {B bt : Nat} {e : TypeId} {size : Nat} {v : Value} {n : Nat} {xs : List Value} (h : w.ownsRow B e size v n xs) (hk : ∀ b O, w.heap[b]? = some O → b ≠ bt → w'.heap[b]? = some O) (hne : ∀ k, v.ownBlock = some k → k ≠ bt) : w'.ownsRow B e size v n xs := by
  refine ⟨h.1, ?_⟩
  rcases h.2 with h2 | ⟨g, cap, cur, rfl, hb, hg, r⟩
  · exact .inl h2
  · exact .inr ⟨g, cap, cur, rfl, hb, hk _ _ hg (hne g rfl), r⟩
theorem delete_own (w0 w : World) (bt c : Nat) (xs : List Value) (hE : Ext w0 w) (h : w.ownsRow w0.heap.size 64 5 (.slice (some ⟨bt, 0, none⟩) 1 c) 1 xs) :
    Calls Try.prog 92 #[.slice (some ⟨bt, 0, none⟩) 1 c, .int .i64 0, .int .i64 1] w fun v w' =>
      v = .returned (.slice (some ⟨bt, 0, none⟩) 0 c) ∧ Ext w0 w' ∧ w'.ownsRow w0.heap.size 64 5 (.slice (some ⟨bt, 0, none⟩) 0 c) 0 [] ∧ ∀ b O, w.heap[b]? = some O → b ≠ bt → w'.heap[b]? = some O := by
  obtain ⟨cur, hg, hb⟩ := row_heap h
  obtain ⟨h1, h2, h3, h4⟩ := row_cur h hg
  obtain ⟨x, y, rfl, rfl⟩ := hE.split hg hb
  refine (delete1 w0 x y cur c h2 h3 h1).mono ?_
  rintro v w' ⟨rfl, cur', hs, he⟩
  refine ⟨rfl, Ext.trans (by (repeat (first | exact Ext.refl _ | assumption | refine Ext.alloc ?_ _ | refine Ext.ext ?_ _ | refine Ext.drew ?_))) he, ?_, ?_⟩
  · exact own_join (W := w0) (d := x) (cur := cur') (Ext.trans (by (repeat (first | exact Ext.refl _ | assumption | refine Ext.alloc ?_ _ | refine Ext.ext ?_ _ | refine Ext.drew ?_))) he) rfl (by omega) (by rw [hs]; exact h1) (by omega) h3 (by simp)
  · intro b O hO hne
    exact heap_some_ext ((Like.heap (S := fun k => k = w0.heap.size + x.size) (by (repeat (first | exact Like.refl _ _ | refine Like.ext ?_ _ | refine Like.alloc ?_ _ | refine Like.swap ?_ (by simp <;> omega) _ _))) b hne).trans hO) he
set_option maxHeartbeats 1000000 in
theorem lift1 (w0 w : World) (M : Nat) (r : Rec) (e : Ev) (ask : Int) (gs : List Ges) (t : Tch) (hr : ROk r) (hs : r.Ts = [t]) (hid : t.ID = e.ID) (h5 : e.Kind ≠ 5) (h : Mach w0 w M r e ask gs) :
    Calls Try.prog 85 #[.pointer (some ⟨M, 0, none⟩)] w fun x w' => x = .returned (.tuple #[]) ∧ Mach w0 w' M { r with Ts := [] } e ask gs := by
  have hidx : idx r e = 0 := by simp [idx, h5, hs, find, hid, List.findIdx?_cons]
  have htc := fun w (h : Mach w0 w M r e ask gs) => touch_m w0 w M r e ask gs hr h
  rw [hidx] at htc
  replace htc := Lib.hid htc
  have hm := Lib.hid h
  obtain ⟨d1, a, c, o, hMe, he, ht, hg⟩ := h
  rw [hs] at ht
  obtain ⟨g, go, gc, hrow, hsm⟩ := ht
  obtain ⟨bt, c', hv⟩ := ownsRow_pos hrow (by decide)
  simp only [List.length_cons, List.length_nil, Nat.zero_add, Value.slice.injEq, true_and] at hv
  obtain ⟨rfl, rfl⟩ := hv
  rw [hs] at he
  simp only [List.length_cons, List.length_nil, Nat.zero_add] at he hrow
  have hE : Ext w0 w := Ext.trans (by (repeat (first | exact Ext.refl _ | assumption | refine Ext.alloc ?_ _ | refine Ext.ext ?_ _ | refine Ext.drew ?_))) he
  have hh := heap_at w0 d1 _ he
  rw [← hMe] at hh
  obtain ⟨curb, hbt, _⟩ := row_heap hrow
  replace hbt := Lib.hid hbt
  have c4 : w.cell? ⟨M, 4, none⟩ = some (.slice (some ⟨bt, 0, none⟩) 1 c) := by simp only [World.cell?, hh]; rfl
  have hMl := (Array.getElem?_eq_some_iff.1 hh).1
  replace hrow := Lib.hid hrow
  replace hh := Lib.hid hh
  replace hE := Lib.hid hE
  replace hg := Lib.hid hg
  have h0 : w0.heap.size ≤ M := by omega
  clear hs hid h5 hidx hMe he hsm d1 hr
  go_enter Try.func85, Try.ntmps85
  go_wp2_with fail
  refine (htc.out _ (hm.out.ext (by (repeat (first | exact Ext.refl _ | assumption | refine Ext.alloc ?_ _ | refine Ext.ext ?_ _ | refine Ext.drew ?_))))).mono ?_
  rintro x w1 ⟨rfl, d, rfl⟩
  go_wp2_with fail
  refine (delete_own w0 _ bt c _ (hE.out.trans (by (repeat (first | exact Ext.refl _ | assumption | refine Ext.alloc ?_ _ | refine Ext.ext ?_ _ | refine Ext.drew ?_)))) (ownsRow_ext hrow.out (by (repeat (first | exact Ext.refl _ | assumption | refine Ext.alloc ?_ _ | refine Ext.ext ?_ _ | refine Ext.drew ?_))))).mono ?_
  rintro x w1 ⟨rfl, hE1, hrow1, hk⟩
  have hh1 := hk M _ (heap_some_ext hh.out (by (repeat (first | exact Ext.refl _ | assumption | refine Ext.alloc ?_ _ | refine Ext.ext ?_ _ | refine Ext.drew ?_)))) (fun h => own_ne' hrow.out hh.out (by decide) bt rfl h.symm)
  have hg1 : Hid (OwnG w1 w0.heap.size o gs) := ⟨ownsRow_keep (ownsRow_ext hg.out.1 (by (repeat (first | exact Ext.refl _ | assumption | refine Ext.alloc ?_ _ | refine Ext.ext ?_ _ | refine Ext.drew ?_)))) hk (own_ne' hg.out.1 hbt.out (by decide)), hg.out.2⟩
  obtain ⟨e1, e2, hM1, hw1⟩ := hE1.split hh1 h0
  subst hM1 hw1
  replace hrow1 := Lib.hid hrow1
  clear hk hg hrow hm htc hE1 hh1 hh hE
  go_wp2
  (first | (refine bodyPost_end (results_none rfl _ _ _) rfl ?_) | (refine bodyPost_ret (results_none rfl _ _ _) rfl ?_))
  refine ⟨rfl, e1, some ⟨bt, 0, none⟩, c, o, rfl, ?_, ?_, ?_⟩
  · (repeat (first | exact Ext.refl _ | assumption | refine Ext.alloc ?_ _ | refine Ext.ext ?_ _ | refine Ext.drew ?_))
  · exact ownsRow_like (S := fun k => k = w0.heap.size + e1.size) (ownsRow_ext hrow1.out (by (repeat (first | exact Ext.refl _ | assumption | refine Ext.alloc ?_ _ | refine Ext.ext ?_ _ | refine Ext.drew ?_)))) (by (repeat (first | exact Like.refl _ _ | refine Like.ext ?_ _ | refine Like.alloc ?_ _ | refine Like.swap ?_ (by simp <;> omega) _ _))) (own_ne' hrow1.out (Mach.heap _ _) (by decide))
  · exact (Mach.turnG hg1.out _).ext (by (repeat (first | exact Ext.refl _ | assumption | refine Ext.alloc ?_ _ | refine Ext.ext ?_ _ | refine Ext.drew ?_)))
set_option maxHeartbeats 1000000 in
theorem lift0 (w0 w : World) (M : Nat) (r : Rec) (e : Ev) (ask : Int) (gs : List Ges) (hr : ROk r) (hs : r.Ts = []) (h : Mach w0 w M r e ask gs) :
    Calls Try.prog 85 #[.pointer (some ⟨M, 0, none⟩)] w fun x w' => x = .returned (.tuple #[]) ∧ Ext w w' := by
  have hidx : idx r e = -1 := by
    simp only [idx, hs, find, List.findIdx?_nil]; split <;> rfl
  have htc := fun w (h : Mach w0 w M r e ask gs) => touch_m w0 w M r e ask gs hr h
  rw [hidx] at htc
  replace htc := Lib.hid htc
  have hm := Lib.hid h
  clear h hs hidx hr
  go_enter Try.func85, Try.ntmps85
  go_wp2_with fail
  refine (htc.out _ (hm.out.ext (by (repeat (first | exact Ext.refl _ | assumption | refine Ext.alloc ?_ _ | refine Ext.ext ?_ _ | refine Ext.drew ?_))))).mono ?_
  rintro x w1 ⟨rfl, d, rfl⟩
  go_wp2
  (first | (refine bodyPost_end (results_none rfl _ _ _) rfl ?_) | (refine bodyPost_ret (results_none rfl _ _ _) rfl ?_))
  refine ⟨rfl, ?_⟩
  (repeat (first | exact Ext.refl _ | assumption | refine Ext.alloc ?_ _ | refine Ext.ext ?_ _ | refine Ext.drew ?_))
theorem lift_any (w0 w : World) (M : Nat) (r : Rec) (e : Ev) (ask : Int) (gs : List Ges) (hr : ROk r) (hT : r.Ts = [] ∨ ∃ t, r.Ts = [t] ∧ t.ID = e.ID) (h5 : e.Kind ≠ 5) (h : Mach w0 w M r e ask gs) :
    Calls Try.prog 85 #[.pointer (some ⟨M, 0, none⟩)] w fun x w' => x = .returned (.tuple #[]) ∧ Mach w0 w' M { r with Ts := [] } e ask gs := by
  rcases hT with hs | ⟨t, hs, hid⟩
  · have e1 : ({ r with Ts := [] } : Rec) = r := by cases r; simp only at hs; subst hs; rfl
    rw [e1]
    exact (lift0 w0 w M r e ask gs hr hs h).mono fun x w' ⟨hx, he⟩ => ⟨hx, h.ext he⟩
  · exact lift1 w0 w M r e ask gs t hr hs hid h5 h
end Go.Proofs.Ytendgmnbnnkpnaa.G
namespace Go.Proofs.Ytendgmnbnnkpnaa.G
open Go.RowKit
theorem succeed_ok {r : Rec} {s : Smp} {ask : Int} (hr : ROk r) (hs : placed s = true) (hc : cont r.Kind = false) : ROk (succeed r s ask).1 := by
  unfold succeed
  split
  · exact ⟨hr.kind, hr.node, by simp [over], hr.count, hs, by simp [over], by simp [over], by simp [over], by simp [over, hc]⟩
  · exact ⟨hr.kind, hr.node, by simp, hr.count, hs, hr.len, hr.ts, by simp, by simp [hc]⟩
theorem succeed_ts {r : Rec} {s : Smp} {ask : Int} : (succeed r s ask).1.Ts = [] ∨ (succeed r s ask).1.Ts = r.Ts := by
  unfold succeed
  split
  · exact .inl rfl
  · exact .inr rfl
set_option maxHeartbeats 2000000 in
theorem still_m (w0 w : World) (M : Nat) (r : Rec) (e : Ev) (t : Tch) (hr : ROk r) (hk : r.Kind ≤ 3) (hs : r.Ts = [t]) (hid : t.ID = e.ID) (hp : placed (smp e) = true) (he : e.Kind = 2 ∨ e.Kind = 3) (h : Mach w0 w M r e 0 []) :
    Calls Try.prog 61 #[.pointer (some ⟨M, 0, none⟩), .int .i64 0, .bool (decide (e.Kind = 3))] w fun x w' => x = .returned (.tuple #[]) ∧ Mach w0 w' M (still r e).1 e (still r e).2.1 (still r e).2.2 := by
  have hm := h
  obtain ⟨a, c, o, hM, hc, ht⟩ := h.read
  have c0 : w.cell? ⟨M, 0, none⟩ = some (.int .i64 r.Kind) := hc 0 _ rfl
  have c3 : w.cell? ⟨M, 3, none⟩ = some (.int .i64 r.Count) := hc 3 _ rfl
  have c4 : w.cell? ⟨M, 4, none⟩ = some (.slice a r.Ts.length c) := hc 4 _ rfl
  have c8 : w.cell? ⟨M, 8, none⟩ = some (.int .i64 e.Kind) := hc 8 _ rfl
  have c9 : w.cell? ⟨M, 9, none⟩ = some (.int .i64 e.ID) := hc 9 _ rfl
  have c10 : w.cell? ⟨M, 10, none⟩ = some (.int .i64 e.X) := hc 10 _ rfl
  have c11 : w.cell? ⟨M, 11, none⟩ = some (.int .i64 e.Y) := hc 11 _ rfl
  have c12 : w.cell? ⟨M, 12, none⟩ = some (.int .i64 e.Time) := hc 12 _ rfl
  have c13 : w.cell? ⟨M, 13, none⟩ = some (.int .i64 e.Wheel) := hc 13 _ rfl
  have h1 : TOk t := hr.ts t (by rw [hs]; simp)
  rw [hs] at ht c4
  simp only [List.length_cons, List.length_nil, Nat.zero_add] at c4
  rcases ht with ht | ⟨b, off, rfl, ht⟩
  · cases ht
  obtain ⟨sb, so, sc, hmt⟩ := ht.one
  have hb := hmt.lt
  obtain ⟨p0, p1, p2, p3, p4, _⟩ := hmt
  have hds := Lib.hid fun w => dist_s (smp e) t.F hp h1.f w
  simp only [smp] at hds
  have hr2 := Lib.hid hr
  have k1 := hr.kind
  have hcn : cont r.Kind = false := by simp [cont, btw]; omega
  have hup : ∀ r2 : Rec, ROk r2 → (r2.Ts = [] ∨ r2.Ts = r.Ts) → r2.Ts = [] ∨ ∃ t, r2.Ts = [t] ∧ t.ID = e.ID := fun r2 _ h2 => h2.imp id fun h2 => ⟨t, by rw [h2, hs], hid⟩
  have h5 : e.Kind ≠ 5 := by omega
  replace hup := Lib.hid hup
  replace h5 := Lib.hid h5
  replace hp := Lib.hid hp
  replace hcn := Lib.hid hcn
  have hmm := Lib.hid hm
  clear hc h h1 hm
  by_cases hd : 8 < dist (smp e) t.F
  · have hw : still r e = fail r := by simp [still, hs, hd]
    rw [hw]
    have d1 : decide (8 < dist ⟨e.X, e.Y, e.Time⟩ t.F) = true := by simpa [smp] using hd
    clear hw hd hs hr hid hk k1 he
    go_enter Try.func61, Try.ntmps61
    go_wp2
    (refine wp_region_ext (by kernel_rfl) (by kernel_rfl) ?_; (repeat (go_big_quiet_step ((first | (go_at_call 53; exact Calls.quiet_ext (sample_any _ _ _ _ _ _ _)) | (go_at_call 83; exact Calls.quiet_ext (hds.out _)))))); refine wpQuiet_nil ?_; intro _ hwq; obtain ⟨dq, hwq⟩ := hwq; subst hwq)
    go_wp2_with fail
    refine (fail_m w0 _ M r e [] (hmm.out.ext (by (repeat (first | exact Ext.refl _ | assumption | refine Ext.alloc ?_ _ | refine Ext.ext ?_ _ | refine Ext.drew ?_))))).mono ?_
    rintro x w1 ⟨rfl, hm2⟩
    replace hm2 := Lib.hid hm2
    go_wp2
    (first | (refine bodyPost_end (results_none rfl _ _ _) rfl ?_) | (refine bodyPost_ret (results_none rfl _ _ _) rfl ?_))
    exact ⟨rfl, hm2.out⟩
  · have d1 : decide (8 < dist ⟨e.X, e.Y, e.Time⟩ t.F) = false := by simpa [smp] using hd
    rcases he with he | he
    · have hw : still r e = (r, 0, []) := by simp [still, hs, hd, he]
      rw [hw]
      have e3 : decide (e.Kind = 3) = false := by simp [he]
      rw [e3]
      clear hw hd hs hr hid hk k1 he e3
      go_enter Try.func61, Try.ntmps61
      go_wp2
      (refine wp_region_ext (by kernel_rfl) (by kernel_rfl) ?_; (repeat (go_big_quiet_step ((first | (go_at_call 53; exact Calls.quiet_ext (sample_any _ _ _ _ _ _ _)) | (go_at_call 83; exact Calls.quiet_ext (hds.out _)))))); refine wpQuiet_nil ?_; intro _ hwq; obtain ⟨dq, hwq⟩ := hwq; subst hwq)
      go_wp2
      (first | (refine bodyPost_end (results_none rfl _ _ _) rfl ?_) | (refine bodyPost_ret (results_none rfl _ _ _) rfl ?_))
      refine ⟨rfl, hmm.out.ext ?_⟩
      (repeat (first | exact Ext.refl _ | assumption | refine Ext.alloc ?_ _ | refine Ext.ext ?_ _ | refine Ext.drew ?_))
    · have e3 : decide (e.Kind = 3) = true := by simp [he]
      rw [e3]
      by_cases hk3 : r.Kind = 3
      · have hw : still r e = fail r := by simp [still, hs, hd, he, hk3]
        rw [hw]
        have e4 : (r.Kind == 3) = true := by simp [hk3]
        clear hw hd hs hr hid hk k1 he e3 hk3
        go_enter Try.func61, Try.ntmps61
        go_wp2
        (refine wp_region_ext (by kernel_rfl) (by kernel_rfl) ?_; (repeat (go_big_quiet_step ((first | (go_at_call 53; exact Calls.quiet_ext (sample_any _ _ _ _ _ _ _)) | (go_at_call 83; exact Calls.quiet_ext (hds.out _)))))); refine wpQuiet_nil ?_; intro _ hwq; obtain ⟨dq, hwq⟩ := hwq; subst hwq)
        go_wp2_with fail
        refine (fail_m w0 _ M r e [] (hmm.out.ext (by (repeat (first | exact Ext.refl _ | assumption | refine Ext.alloc ?_ _ | refine Ext.ext ?_ _ | refine Ext.drew ?_))))).mono ?_
        rintro x w1 ⟨rfl, hm2⟩
        replace hm2 := Lib.hid hm2
        go_wp2
        (first | (refine bodyPost_end (results_none rfl _ _ _) rfl ?_) | (refine bodyPost_ret (results_none rfl _ _ _) rfl ?_))
        exact ⟨rfl, hm2.out⟩
      · have e4 : (r.Kind == 3) = false := by simp [hk3]
        by_cases hk2 : r.Kind = 2
        · have e5 : (r.Kind == 2) = true := by simp [hk2]
          by_cases hc0 : r.Count = 0
          · have hw : still r e = ({ r with Count := 1, L := smp e, Ts := [] }, 3, []) := by simp [still, hs, hd, he, hk2, hc0]
            rw [hw]
            have e6 : (r.Count == 0) = true := by simp [hc0]
            have hr3 : ROk { r with Count := 1, L := smp e } := ⟨hr.kind, hr.node, hr.state, by simp, hp.out, hr.len, hr.ts, hr.over, fun h => by rw [hcn.out] at h; cases h⟩
            have hr4 := Lib.hid (hup.out _ hr3 (.inr rfl))
            replace hr3 := Lib.hid hr3
            clear hw hd hs hr hid hk k1 he e3 hk3 hk2 hc0
            go_enter Try.func61, Try.ntmps61
            go_wp2
            (refine wp_region_ext (by kernel_rfl) (by kernel_rfl) ?_; (repeat (go_big_quiet_step ((first | (go_at_call 53; exact Calls.quiet_ext (sample_any _ _ _ _ _ _ _)) | (go_at_call 83; exact Calls.quiet_ext (hds.out _)))))); refine wpQuiet_nil ?_; intro _ hwq; obtain ⟨dq, hwq⟩ := hwq; subst hwq)
            go_wp2_with fail
            refine gen_at (p := fun W => Calls _ _ _ W _) ?_
            intro W hW
            have hmW : Mach w0 W M r e 0 [] := by
              rw [hW]
              exact hmm.out.ext (by (repeat (first | exact Ext.refl _ | assumption | refine Ext.alloc ?_ _ | refine Ext.ext ?_ _ | refine Ext.drew ?_)))
            clear hW hmm c0 c3 c4 c8 c9 c10 c11 c12 c13 p0 p1 p2 p3 p4 hM hb
            obtain ⟨D1, a', c', o', rfl, ⟨D2, rfl⟩, ht, hg⟩ := hmW
            replace ht := Lib.hid ht
            replace hg := Lib.hid hg
            refine (sample_any _ _ _ _ _ _ _).mono ?_
            rintro x w1 ⟨rfl, ds, rfl⟩
            go_wp2_with fail
            refine (lift_any w0 _ _ { r with Count := 1, L := smp e } e 3 [] hr3.out hr4.out h5.out ?_).mono ?_
            · exact ⟨D1, a', c', o', rfl, by (repeat (first | exact Ext.refl _ | assumption | refine Ext.alloc ?_ _ | refine Ext.ext ?_ _ | refine Ext.drew ?_)), (Mach.turnT ht.out _).ext (by (repeat (first | exact Ext.refl _ | assumption | refine Ext.alloc ?_ _ | refine Ext.ext ?_ _ | refine Ext.drew ?_))), (Mach.turnG hg.out _).ext (by (repeat (first | exact Ext.refl _ | assumption | refine Ext.alloc ?_ _ | refine Ext.ext ?_ _ | refine Ext.drew ?_)))⟩
            rintro x w1 ⟨rfl, hm2⟩
            replace hm2 := Lib.hid hm2
            go_wp2
            (first | (refine bodyPost_end (results_none rfl _ _ _) rfl ?_) | (refine bodyPost_ret (results_none rfl _ _ _) rfl ?_))
            exact ⟨rfl, hm2.out⟩
          · have hw : still r e = ({ (succeed r (smp e) 1).1 with Ts := [] }, (succeed r (smp e) 1).2.1, (succeed r (smp e) 1).2.2) := by simp [still, hs, hd, he, hk2, hc0]
            rw [hw]
            have e6 : (r.Count == 0) = false := by simp [hc0]
            have hrs := succeed_ok (ask := 1) hr hp.out hcn.out
            have hrt := Lib.hid (hup.out _ hrs succeed_ts)
            replace hrs := Lib.hid hrs
            have hrl := Lib.hid (hr.withL hp.out)
            obtain ⟨q, hq⟩ : ∃ q, q = succeed r (smp e) 1 := ⟨_, rfl⟩
            have hsc := Lib.hid fun w h => succeed_m w0 w M r e (smp e) 1 hrl.out h
            rw [← hq] at hrs hrt hsc ⊢
            clear hw hd hs hr hid hk k1 he e3 hk3 hk2 hc0 hq
            go_enter Try.func61, Try.ntmps61
            go_wp2
            (refine wp_region_ext (by kernel_rfl) (by kernel_rfl) ?_; (repeat (go_big_quiet_step ((first | (go_at_call 53; exact Calls.quiet_ext (sample_any _ _ _ _ _ _ _)) | (go_at_call 83; exact Calls.quiet_ext (hds.out _)))))); refine wpQuiet_nil ?_; intro _ hwq; obtain ⟨dq, hwq⟩ := hwq; subst hwq)
            go_wp2_with fail
            refine (sample_any _ _ _ _ _ _ _).mono ?_
            rintro x w1 ⟨rfl, ds, rfl⟩
            go_wp2_with fail
            refine (hsc.out _ (hmm.out.ext (by (repeat (first | exact Ext.refl _ | assumption | refine Ext.alloc ?_ _ | refine Ext.ext ?_ _ | refine Ext.drew ?_))))).mono ?_
            rintro x w1 ⟨rfl, hm2⟩
            replace hm2 := Lib.hid hm2
            go_wp2_with fail
            refine (lift_any w0 _ M _ e _ _ hrs.out hrt.out h5.out (hm2.out.ext (by (repeat (first | exact Ext.refl _ | assumption | refine Ext.alloc ?_ _ | refine Ext.ext ?_ _ | refine Ext.drew ?_))))).mono ?_
            rintro x w2 ⟨rfl, hm3⟩
            replace hm3 := Lib.hid hm3
            go_wp2
            (first | (refine bodyPost_end (results_none rfl _ _ _) rfl ?_) | (refine bodyPost_ret (results_none rfl _ _ _) rfl ?_))
            exact ⟨rfl, hm3.out⟩
        · have hw : still r e = ({ (succeed r (smp e) 0).1 with Ts := [] }, (succeed r (smp e) 0).2.1, (succeed r (smp e) 0).2.2) := by simp [still, hs, hd, he, hk2, hk3]
          rw [hw]
          have e5 : (r.Kind == 2) = false := by simp [hk2]
          have hrs := succeed_ok (ask := 0) hr hp.out hcn.out
          have hrt := Lib.hid (hup.out _ hrs succeed_ts)
          replace hrs := Lib.hid hrs
          have hrl := Lib.hid (hr.withL hp.out)
          obtain ⟨q, hq⟩ : ∃ q, q = succeed r (smp e) 0 := ⟨_, rfl⟩
          have hsc := Lib.hid fun w h => succeed_m w0 w M r e (smp e) 0 hrl.out h
          rw [← hq] at hrs hrt hsc ⊢
          clear hw hd hs hr hid hk k1 he e3 hk3 hk2 hq
          go_enter Try.func61, Try.ntmps61
          go_wp2
          (refine wp_region_ext (by kernel_rfl) (by kernel_rfl) ?_; (repeat (go_big_quiet_step ((first | (go_at_call 53; exact Calls.quiet_ext (sample_any _ _ _ _ _ _ _)) | (go_at_call 83; exact Calls.quiet_ext (hds.out _)))))); refine wpQuiet_nil ?_; intro _ hwq; obtain ⟨dq, hwq⟩ := hwq; subst hwq)
          go_wp2_with fail
          refine (sample_any _ _ _ _ _ _ _).mono ?_
          rintro x w1 ⟨rfl, ds, rfl⟩
          go_wp2_with fail
          refine (hsc.out _ (hmm.out.ext (by (repeat (first | exact Ext.refl _ | assumption | refine Ext.alloc ?_ _ | refine Ext.ext ?_ _ | refine Ext.drew ?_))))).mono ?_
          rintro x w1 ⟨rfl, hm2⟩
          replace hm2 := Lib.hid hm2
          go_wp2_with fail
          refine (lift_any w0 _ M _ e _ _ hrs.out hrt.out h5.out (hm2.out.ext (by (repeat (first | exact Ext.refl _ | assumption | refine Ext.alloc ?_ _ | refine Ext.ext ?_ _ | refine Ext.drew ?_))))).mono ?_
          rintro x w2 ⟨rfl, hm3⟩
          replace hm3 := Lib.hid hm3
          go_wp2
          (first | (refine bodyPost_end (results_none rfl _ _ _) rfl ?_) | (refine bodyPost_ret (results_none rfl _ _ _) rfl ?_))
          exact ⟨rfl, hm3.out⟩
end Go.Proofs.Ytendgmnbnnkpnaa.G
namespace Go.Proofs.Ytendgmnbnnkpnaa.G
open Go.RowKit
theorem fl_bd (a d : Int) (h1 : -2097152000 ≤ a) (h2 : a ≤ 2097152000) : -2097152000 ≤ fl a d ∧ fl a d ≤ 2097152000 := by
  have h := Int.natAbs_ediv_le_natAbs a d
  unfold fl
  omega
theorem vel_bd (l : List Smp) : (-2097152000 ≤ (vel l).1 ∧ (vel l).1 ≤ 2097152000) ∧ (-2097152000 ≤ (vel l).2 ∧ (vel l).2 ≤ 2097152000) := by
  by_cases hv : velOk l = true
  · by_cases hl : l = []
    · subst hl; simp [vel]
    · have hpos : 0 < l.length := List.length_pos_iff.2 hl
      have hg : ∀ s, s ∈ l → placed s = true := fun s hs => by
        obtain ⟨i, hi, rfl⟩ := List.mem_iff_getElem.1 hs
        have := good_placed l i (velOk_good l hv i hi)
        rwa [nth_eq l i hi] at this
      have hlast : nth l (l.length - 1) ∈ l := by rw [nth_eq l _ (by omega)]; exact List.getElem_mem _
      obtain ⟨f, hf⟩ : ∃ f, (l.find? fun s => decide ((nth l (l.length - 1)).T - 100 ≤ s.T)).getD (nth l (l.length - 1)) = f := ⟨_, rfl⟩
      have hfm : f ∈ l := by
        rw [← hf]
        cases hfd : l.find? fun s => decide ((nth l (l.length - 1)).T - 100 ≤ s.T) with
        | none => exact hlast
        | some g => exact List.mem_of_find?_eq_some hfd
      have b1 := placed_bd (hg _ hlast)
      have b2 := placed_bd (hg _ hfm)
      rw [vel_ok l hpos hv f hf]
      exact ⟨fl_bd _ _ (by omega) (by omega), fl_bd _ _ (by omega) (by omega)⟩
  · rw [vel_bad l (by simpa using hv)]
    simp
set_option maxHeartbeats 2000000 in
theorem throw_m (w0 w : World) (M : Nat) (r : Rec) (e : Ev) (t : Tch) (hr : ROk r) (hs : r.Ts = [t]) (hp : placed (smp e) = true) (he : e.Kind = 2 ∨ e.Kind = 3) (h : Mach w0 w M r e 0 []) :
    Calls Try.prog 62 #[.pointer (some ⟨M, 0, none⟩), .int .i64 0, .bool (decide (e.Kind = 3))] w fun x w' => x = .returned (.tuple #[]) ∧ Mach w0 w' M (throw_ r e).1 e (throw_ r e).2.1 (throw_ r e).2.2 := by
  rcases he with he | he
  · have hw : throw_ r e = (r, 0, []) := by simp [throw_, he]
    rw [hw]
    have e3 : decide (e.Kind = 3) = false := by simp [he]
    rw [e3]
    replace h := Lib.hid h
    clear hw he e3 hp hs hr
    go_enter Try.func62, Try.ntmps62
    go_wp2
    (first | (refine bodyPost_end (results_none rfl _ _ _) rfl ?_) | (refine bodyPost_ret (results_none rfl _ _ _) rfl ?_))
    refine ⟨rfl, h.out.ext ?_⟩
    (repeat (first | exact Ext.refl _ | assumption | refine Ext.alloc ?_ _ | refine Ext.ext ?_ _ | refine Ext.drew ?_))
  have e3 : decide (e.Kind = 3) = true := by simp [he]
  rw [e3]
  have hm := h
  obtain ⟨a, c, o, hM, hc, ht⟩ := h.read
  have c4 : w.cell? ⟨M, 4, none⟩ = some (.slice a r.Ts.length c) := hc 4 _ rfl
  have c8 : w.cell? ⟨M, 8, none⟩ = some (.int .i64 e.Kind) := hc 8 _ rfl
  have c9 : w.cell? ⟨M, 9, none⟩ = some (.int .i64 e.ID) := hc 9 _ rfl
  have c10 : w.cell? ⟨M, 10, none⟩ = some (.int .i64 e.X) := hc 10 _ rfl
  have c11 : w.cell? ⟨M, 11, none⟩ = some (.int .i64 e.Y) := hc 11 _ rfl
  have c12 : w.cell? ⟨M, 12, none⟩ = some (.int .i64 e.Time) := hc 12 _ rfl
  have c13 : w.cell? ⟨M, 13, none⟩ = some (.int .i64 e.Wheel) := hc 13 _ rfl
  have h1 : TOk t := hr.ts t (by rw [hs]; simp)
  rw [hs] at ht c4
  simp only [List.length_cons, List.length_nil, Nat.zero_add] at c4
  rcases ht with ht | ⟨b, off, rfl, ht⟩
  · cases ht
  obtain ⟨sb, so, sc, hmt⟩ := ht.one
  have hb := hmt.lt
  have hv := Lib.hid fun w' (he : Ext w w') => vel_t t sb so sc w' h1 (hmt.ss.ext he)
  obtain ⟨p0, p1, p2, p3, p4, _⟩ := hmt
  obtain ⟨⟨v1, v2⟩, v3, v4⟩ := vel_bd t.S
  have hrl := Lib.hid (hr.withL hp)
  have hmm := Lib.hid hm
  by_cases hd : mx (mx (mx (vel t.S).1 (-(vel t.S).1)) (vel t.S).2) (-(vel t.S).2) < 400
  · have hw : throw_ r e = fail r := by simp [throw_, he, hs, hd]
    rw [hw]
    have d1 : decide (mx (mx (mx (vel t.S).1 (-(vel t.S).1)) (vel t.S).2) (-(vel t.S).2) < 400) = true := by simpa using hd
    clear hw hd hs hr he e3 hc h h1 hm hp
    go_enter Try.func62, Try.ntmps62
    go_wp2_with fail
    refine (hv.out _ (by (repeat (first | exact Ext.refl _ | assumption | refine Ext.alloc ?_ _ | refine Ext.ext ?_ _ | refine Ext.drew ?_)))).mono ?_
    rintro x w1 ⟨rfl, dv, rfl⟩
    go_wp2_with fail
    refine (fail_m w0 _ M r e [] (hmm.out.ext (by (repeat (first | exact Ext.refl _ | assumption | refine Ext.alloc ?_ _ | refine Ext.ext ?_ _ | refine Ext.drew ?_))))).mono ?_
    rintro x w1 ⟨rfl, hm2⟩
    replace hm2 := Lib.hid hm2
    go_wp2
    (first | (refine bodyPost_end (results_none rfl _ _ _) rfl ?_) | (refine bodyPost_ret (results_none rfl _ _ _) rfl ?_))
    exact ⟨rfl, hm2.out⟩
  · have hw : throw_ r e = succeed r (smp e) 1 := by simp [throw_, he, hs, hd]
    rw [hw]
    have d1 : decide (mx (mx (mx (vel t.S).1 (-(vel t.S).1)) (vel t.S).2) (-(vel t.S).2) < 400) = false := by simpa using hd
    obtain ⟨q, hq⟩ : ∃ q, q = succeed r (smp e) 1 := ⟨_, rfl⟩
    have hsc := Lib.hid fun w h => succeed_m w0 w M r e (smp e) 1 hrl.out h
    rw [← hq] at hsc ⊢
    clear hw hd hs hr he e3 hc h h1 hm hp hq
    go_enter Try.func62, Try.ntmps62
    go_wp2_with fail
    refine (hv.out _ (by (repeat (first | exact Ext.refl _ | assumption | refine Ext.alloc ?_ _ | refine Ext.ext ?_ _ | refine Ext.drew ?_)))).mono ?_
    rintro x w1 ⟨rfl, dv, rfl⟩
    go_wp2_with fail
    refine (sample_any _ _ _ _ _ _ _).mono ?_
    rintro x w1 ⟨rfl, ds, rfl⟩
    go_wp2_with fail
    refine (hsc.out _ (hmm.out.ext (by (repeat (first | exact Ext.refl _ | assumption | refine Ext.alloc ?_ _ | refine Ext.ext ?_ _ | refine Ext.drew ?_))))).mono ?_
    rintro x w1 ⟨rfl, hm2⟩
    replace hm2 := Lib.hid hm2
    go_wp2
    (first | (refine bodyPost_end (results_none rfl _ _ _) rfl ?_) | (refine bodyPost_ret (results_none rfl _ _ _) rfl ?_))
    exact ⟨rfl, hm2.out⟩
end Go.Proofs.Ytendgmnbnnkpnaa.G
