/- slices.Delete of the one touch; lift. -/
import Derived.Test.YtendgmnbnnkpnaaJ9
import Derived.ArgAppend
import Derived.WalkKit
import Derived.WalkSpells
import Derived.WalkLawsBesides
import Derived.Deep.QuietTactic
import Derived.BigQuiet
import Derived.BigRegion
import Derived.Lib.Hide
import Derived.Deep.RegionWith
set_option linter.unusedSimpArgs false
set_option linter.unusedVariables false
namespace Go
theorem wpList_append_zero {P : Program} (w : World) {ops : Array Oper} {rest : List Oper} {o : Oper} {a : Act} {Q : Exit → Act → World → Prop} (s x : Operand) (t e : TypeId) (i : TypeInfo) (hi : P.info? e = some i) (ht : P.underlying t = some (.slice e))
    (b off n cap : Nat) (ad : Addr) (c : Nat) (hcap : n ≤ cap) (hgd : o.guard = none) (ho : o.op = .call { callee := .builtin .append, args := #[s, x], argTypes := #[t, t] }) (hs : a.eval s = .slice (some ⟨b, off, none⟩) n cap) (hx : a.eval x = .slice (some ad) 0 c)
    (h : wpList P ops Q rest (a.put o.dst (.slice (some ⟨b, off, none⟩) n cap)) w) : wpList P ops Q (o :: rest) a w := by
  refine wpList_plain hgd fun K hK => ?_
  have hr := run_append_room_cells (P := P) w t o.type e i ht hi b off n cap ad 0 c [] (by simp) (fun j u h => by cases h) (fun u h => by cases h) (by omega) (fun j h => by cases h) (fun j h => by cases h)
  unfold Oper.wp execOp
  simp only [ho, resolve, invoke, builtin, Sem.run_bind, Sem.run_pure, Result.andThen_ok, List.map_toArray, List.map_cons, List.map_nil, hs, hx, hr]
  exact hK _ _ h
theorem wpList_clear {P : Program} {w w' : World} {ops : Array Oper} {rest : List Oper} {o : Oper} {a : Act} {Q : Exit → Act → World → Prop} (s : Operand) (t : TypeId) (v : Value) (hgd : o.guard = none) (ho : o.op = .call { callee := .builtin .clear, args := #[s], argTypes := #[t] }) (hs : a.eval s = v)
    (hr : (Builtin.clear_ #[t] o.type #[v]).run P w = .ok (.tuple #[]) w') (h : wpList P ops Q rest (a.put o.dst (.tuple #[])) w') : wpList P ops Q (o :: rest) a w := by
  refine wpList_plain hgd fun K hK => ?_
  unfold Oper.wp execOp
  simp only [ho, resolve, invoke, builtin, Sem.run_bind, Sem.run_pure, Result.andThen_ok, List.map_toArray, List.map_cons, List.map_nil, hs, hr]
  exact hK _ _ h
end Go
namespace Go.Proofs.Ytendgmnbnnkpnaa.G
open Go.RowKit
theorem infoT1 : ∃ i, Try.prog.info? 64 = some i ∧ i.zero = some (.agg #[.int .i64 0, .int .i64 0, .int .i64 0, .int .i64 0, .slice none 0 0]) := by
  obtain ⟨i, hi, hz, _⟩ := info_parts infoT
  exact ⟨i, hi, hz⟩
theorem setCells_at (w0 : World) (x y : Grow) (T : TypeId) : ∀ (vs : List Value) (o : Nat) (cur : Array Value), ∃ cur', cur'.size = cur.size ∧ ((((w0.ext x).alloc (.cells cur T)).ext y).setCells (w0.heap.size + x.size) o vs = ((w0.ext x).alloc (.cells cur' T)).ext y)
  | [], _, cur => ⟨cur, rfl, rfl⟩
  | v :: r, o, cur => by
    obtain ⟨cur', h1, h2⟩ := setCells_at w0 x y T r (o + 1) (cur.setIfInBounds o v)
    refine ⟨cur', by simpa using h1, ?_⟩
    rw [← h2]
    simp only [World.setCells]
    rw [World.setCell_ext _ _ _ _ _ (by simp), World.setCell_alloc_at _ _ _ _ _ (World.size_ext w0 x).symm]
theorem clear1 (w0 : World) (x y : Grow) (cur : Array Value) (hs : 5 ≤ cur.size) :
    ∃ cur', cur'.size = cur.size ∧ ∀ k ty, (Builtin.clear_ #[22] ty #[.slice (some ⟨w0.heap.size + x.size, 0, none⟩) 1 k]).run Try.prog (((w0.ext x).alloc (.cells cur 64)).ext y) = .ok (.tuple #[]) (((w0.ext x).alloc (.cells cur' 64)).ext y) := by
  obtain ⟨i, hi, hz⟩ := infoT1
  obtain ⟨cur', h1, h2⟩ := setCells_at w0 x y 64 [.int .i64 0, .int .i64 0, .int .i64 0, .int .i64 0, .slice none 0 0] 0 cur
  refine ⟨cur', h1, fun k ty => ?_⟩
  have hb : (((w0.ext x).alloc (.cells cur 64)).ext y).heap[w0.heap.size + x.size]? = some (.cells cur 64) := heap_at w0 x _ (Ext.ext (Ext.refl _) y)
  have hst := run_storeCells_cells (P := Try.prog) (w0.heap.size + x.size) 0 [.int .i64 0, .int .i64 0, .int .i64 0, .int .i64 0, .slice none 0 0] 0 (((w0.ext x).alloc (.cells cur 64)).ext y)
    (fun j hj => by
      simp only [List.length_cons, List.length_nil] at hj
      simp only [World.cell?, hb, Nat.zero_add]
      have : j < cur.size := by omega
      simp [this])
    (fun j hj => by simp only [World.frozen?, hb]; simp) (by simp [Value.oneCell'])
  rw [h2] at hst
  have hz2 : (zeroValue 64).run Try.prog (((w0.ext x).alloc (.cells cur 64)).ext y) = .ok (.agg #[.int .i64 0, .int .i64 0, .int .i64 0, .int .i64 0, .slice none 0 0]) (((w0.ext x).alloc (.cells cur 64)).ext y) := by
    simp [zeroValue, typeInfo, hi, hz]
  have hzc : (Builtin.zeroCells (Value.agg #[.int .i64 0, .int .i64 0, .int .i64 0, .int .i64 0, .slice none 0 0]).cells 1).toList = [.int .i64 0, .int .i64 0, .int .i64 0, .int .i64 0, .slice none 0 0] := by kernel_rfl
  simp [Builtin.clear_, run_underlying Try.underlying22, hz2, hzc, hst]
set_option maxHeartbeats 1000000 in
theorem delete1 (w0 : World) (x y : Grow) (cur : Array Value) (c : Nat) (hc : 1 ≤ c) (hm : c ≤ maxLen) (hs : cur.size = c * 5) :
    Calls Try.prog 92 #[.slice (some ⟨w0.heap.size + x.size, 0, none⟩) 1 c, .int .i64 0, .int .i64 1] (((w0.ext x).alloc (.cells cur 64)).ext y) fun v w' =>
      v = .returned (.slice (some ⟨w0.heap.size + x.size, 0, none⟩) 0 c) ∧ ∃ (cur' : Array Value), cur'.size = cur.size ∧ Ext (((w0.ext x).alloc (.cells cur' 64)).ext y) w' := by
  obtain ⟨i0, hi0, _⟩ := infoT1
  have hcl := Lib.hid fun y => clear1 w0 x y cur (by omega)
  replace hs := Lib.hid hs
  replace hi0 := Lib.hid hi0
  have hc1 : (c = 1) ∨ ¬ c = 1 := by omega
  rcases hc1 with rfl | h1
  all_goals
    go_enter Try.func92, Try.ntmps92
    go_wp2
    (refine wp_region_calm_ops [0, 1, 2, 3, 4, 5] [] [] [6, 7] (by kernel_rfl) (by kernel_rfl) (by simp only [List.filterMap_cons, List.filterMap_nil, List.getElem?_toArray, List.getElem?_cons_succ, List.getElem?_cons_zero]; try exact rfl) (by simp only [List.filterMap_cons, List.filterMap_nil, List.getElem?_toArray, List.getElem?_cons_succ, List.getElem?_cons_zero]; try exact rfl) (by simp only [List.filterMap_cons, List.filterMap_nil, List.getElem?_toArray, List.getElem?_cons_succ, List.getElem?_cons_zero]; try exact rfl) ?_; (repeat (first | (refine ql_plain rfl rfl ?_; intro K hK; go_big_quiet_op; go_big_quiet_on) | (refine ql_nilCheck rfl rfl rfl ?_; intro K hK; simp only [Act.put, List.setIfInBounds_toArray, List.set_cons_succ, List.set_cons_zero]; go_big_quiet_on) | fail | (refine ql_skip rfl ?_; intro K hK; simp only [Act.put, List.setIfInBounds_toArray, List.set_cons_succ, List.set_cons_zero]; go_big_quiet_on))); refine ql_nil ?_)
    refine mw0 ?_; (repeat (first | (refine pl_plain rfl rfl ?_; intro K hK; go_big_quiet_op; go_big_quiet_on) | (refine pl_nilCheck rfl rfl rfl ?_; intro K hK; simp only [Act.put, List.setIfInBounds_toArray, List.set_cons_succ, List.set_cons_zero]; go_big_quiet_on))); refine pl_nil ?_; rintro w1 ⟨d1, rfl⟩ -
    refine wpList_append_zero _ _ _ 22 64 i0 hi0.out Try.underlying22 _ _ 0 _ _ _ (by omega) rfl rfl rfl rfl ?_
    go_wp2; refine only_normal ?_
    obtain ⟨cur', hc2, hcr⟩ := hcl.out (y.add d1)
    simp only [← World.ext_ext] at hcr
    go_wp2
    go_ret
    refine ⟨rfl, cur', hc2, ?_⟩
    (repeat (first | exact Ext.refl _ | assumption | refine Ext.alloc ?_ _ | refine Ext.ext ?_ _ | refine Ext.drew ?_))
end Go.Proofs.Ytendgmnbnnkpnaa.G
