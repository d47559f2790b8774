/- begin. begin, the second touch of a pinch. -/
import Derived.Test.YtendgmnbnnkpnaaUK
import Derived.Test.YtendgmnbnnkpnaaUA
import Derived.WalkKit
import Derived.WalkSpells
import Derived.WalkLawsBesides
import Derived.Deep.QuietTactic
import Derived.BigQuiet
import Derived.BigRegion
import Derived.Lib.Hide
import Derived.Deep.RegionWith
set_option linter.unusedSimpArgs false
set_option linter.unusedVariables false
namespace Go
theorem relay {w0 w' : World} {d : Grow} {O : Obj} (he : Ext w0 w') (hh : w'.heap[w0.heap.size + d.size]? = some O) : ∃ e1 e2 : Grow, d.size = e1.size ∧ w' = ((w0.ext e1).alloc O).ext e2 := by
  obtain ⟨e1, e2, h1, h2⟩ := he.split hh (by omega)
  exact ⟨e1, e2, by omega, h2⟩
theorem relay_grown {w0 W w2 : World} {row : Option Nat} {d : Grow} {O : Obj} (hE : Ext w0 W) (hg : W.grownBy w2 row) (hrow : ∀ k, row = some k → w0.heap.size ≤ k) (hM : W.heap[w0.heap.size + d.size]? = some O) (hne : ∀ k, row = some k → k ≠ w0.heap.size + d.size) : ∃ e1 e2 : Grow, d.size = e1.size ∧ w2 = ((w0.ext e1).alloc O).ext e2 := by
  refine relay (Ext.of_grown hE hg hrow) ?_
  rw [hg.block _ (Array.getElem?_eq_some_iff.1 hM).1 (fun h => hne _ h.symm rfl)]
  exact hM
theorem heap_grown {W w2 : World} {row : Option Nat} {b : Nat} {O : Obj} (hg : W.grownBy w2 row) (h : W.heap[b]? = some O) (hne : ∀ k, row = some k → k ≠ b) : w2.heap[b]? = some O := by
  rw [hg.block _ (Array.getElem?_eq_some_iff.1 h).1 (fun h => hne _ h.symm rfl)]
  exact h
end Go
namespace Go.Proofs.Ytendgmnbnnkpnaa.G
open Go.RowKit
def beginR (r : Rec) (e : Ev) : Rec :=
  if room r.Kind ≤ r.Ts.length then r
  else { r with Ts := (match r.Ts with | [t] => [⟨t.ID, latest t, [latest t]⟩] | l => l) ++ [⟨e.ID, smp e, [smp e]⟩], State := if r.State = 0 then 1 else r.State }
/-- a new row of one sample -/
theorem smpIn_one {w : World} {b : Nat} {x y t : Int} {fr : Nat × Nat} (h : w.heap[b]? = some (.cells #[.int .i64 x, .int .i64 y, .int .i64 t] 24 fr)) : SmpIn w b 0 [⟨x, y, t⟩] :=
  ⟨_, fr, h, fun j u hu => by
    rw [Nat.zero_add, List.getElem?_toArray]
    exact hu⟩
theorem cells_at0 {w : World} {b : Nat} {cur : Array Value} {t : TypeId} {fr : Nat × Nat} {l : List Value} (h : w.heap[b]? = some (.cells cur t fr)) (hl : cur.toList = l) : ∀ j u, l[j]? = some u → w.cell? ((⟨b, 0, none⟩ : Addr).add j) = some u := by
  intro j u hu
  subst hl
  rw [Addr.add_lit, Nat.zero_add]
  simp only [World.cell?, h]
  simpa using hu
set_option maxHeartbeats 1000000 in
theorem begin0 (w0 w : World) (M : Nat) (r : Rec) (e : Ev) (hr : ROk r) (hs : r.Ts = []) (h : MachS w0 w M r e) :
    Calls Try.prog 84 #[.pointer (some ⟨M, 0, none⟩)] w fun x w' => ∃ v, x = .returned v ∧ Mach w0 w' M (beginR r e) e 0 [] := by
  obtain ⟨D1, a, c, rfl, ⟨D2, rfl⟩, ht, _⟩ := h
  have hw : beginR r e = { r with Ts := [⟨e.ID, smp e, [smp e]⟩], State := if r.State = 0 then 1 else r.State } := by
    have : 0 < room r.Kind := by unfold room; split <;> decide
    simp [beginR, hs]; omega
  rw [hw]
  have hrm : room r.Kind = 1 ∨ room r.Kind = 2 := by unfold room; split <;> simp
  rw [hs] at ht ⊢
  simp only [List.length_nil] at ht ⊢
  have hown := Lib.hid fun (w' : World) he => ownsRow_ext (w' := w') ht he
  have htr := hr.over
  clear ht hw
  have hrm1 : decide ((room r.Kind : Int) ≤ 0) = false := by rcases hrm with h | h <;> rw [h] <;> decide
  obtain ⟨st, hst⟩ : ∃ st, st = (if r.State = 0 then 1 else r.State) := ⟨_, rfl⟩
  rw [← hst]
  rcases hb7 : (r.Kind == 7) with _ | _ <;> rcases hb0 : (r.State == 0) with _ | _
  all_goals
    have hst2 := Lib.hid hst
    clear hst
    go_enter Try.func84, Try.ntmps84
    go_wp2
    (refine wp_region_calm_ops [0, 1, 2, 3, 4, 5, 6, 7, 8, 9, 10, 11, 12] [] [] [] (by kernel_rfl) (by kernel_rfl) (by simp only [List.filterMap_cons, List.filterMap_nil, List.getElem?_toArray, List.getElem?_cons_succ, List.getElem?_cons_zero]; try exact rfl) (by simp only [List.filterMap_cons, List.filterMap_nil, List.getElem?_toArray, List.getElem?_cons_succ, List.getElem?_cons_zero]; try exact rfl) (by simp only [List.filterMap_cons, List.filterMap_nil, List.getElem?_toArray, List.getElem?_cons_succ, List.getElem?_cons_zero]; try exact rfl) ?_; (repeat (first | (refine ql_plain rfl rfl ?_; intro K hK; go_big_quiet_op; go_big_quiet_on) | (refine ql_nilCheck rfl rfl rfl ?_; intro K hK; simp only [Act.put, List.setIfInBounds_toArray, List.set_cons_succ, List.set_cons_zero]; go_big_quiet_on) | (refine ql_call (fun _ => ((room_any _ _).mono (by rintro e w' ⟨rfl, rfl⟩; exact ⟨rfl, Ext.refl _⟩))) rfl rfl Try.func91 rfl (by kernel_rfl) rfl ?_; intro K hK; simp only [Act.put, List.setIfInBounds_toArray, List.set_cons_succ, List.set_cons_zero]; go_big_quiet_on) | (refine ql_skip rfl ?_; intro K hK; simp only [Act.put, List.setIfInBounds_toArray, List.set_cons_succ, List.set_cons_zero]; go_big_quiet_on))); refine ql_nil ?_)
    refine mw0 ?_; (repeat (first | (refine pl_plain rfl rfl ?_; intro K hK; go_big_quiet_op; go_big_quiet_on) | (refine pl_nilCheck rfl rfl rfl ?_; intro K hK; simp only [Act.put, List.setIfInBounds_toArray, List.set_cons_succ, List.set_cons_zero]; go_big_quiet_on))); refine pl_nil ?_; rintro w1 ⟨d1, rfl⟩ -
    go_wp2; refine only_normal ?_
    go_wp2_with (go_at_call 53; refine (sample_any _ _ _ _ _ _ _).mono ?_; rintro e w' ⟨rfl, d, rfl⟩)
    (refine wp_region_segs (fun _ => none) [([1, 2, 3, 4, 5, 6, 7, 8, 9, 10, 11, 12], .m, 13), ([14], .m, 15)] [] [0] [16, 17, 18, 19, 20] (by kernel_rfl) (by kernel_rfl) (by simp only [List.map_cons, List.map_nil, List.filterMap_cons, List.filterMap_nil, List.getElem?_toArray, List.getElem?_cons_succ, List.getElem?_cons_zero]; try exact rfl) (by simp only [List.filterMap_cons, List.filterMap_nil, List.getElem?_toArray, List.getElem?_cons_succ, List.getElem?_cons_zero]; try exact rfl) (by simp only [List.filterMap_cons, List.filterMap_nil, List.getElem?_toArray, List.getElem?_cons_succ, List.getElem?_cons_zero]; try exact rfl) (by simp only [List.filterMap_cons, List.filterMap_nil, List.getElem?_toArray, List.getElem?_cons_succ, List.getElem?_cons_zero]; try exact rfl) (by decide) ?_)
    (refine sg_m ?_; (repeat (first | (refine ql_plain rfl rfl ?_; intro K hK; go_big_quiet_op; go_big_quiet_on) | (refine ql_nilCheck rfl rfl rfl ?_; intro K hK; simp only [Act.put, List.setIfInBounds_toArray, List.set_cons_succ, List.set_cons_zero]; go_big_quiet_on) | fail | (refine ql_skip rfl ?_; intro K hK; simp only [Act.put, List.setIfInBounds_toArray, List.set_cons_succ, List.set_cons_zero]; go_big_quiet_on))); refine ql_nil ?_)
    (refine sg_sl (.cells #[.int .i64 e.X, .int .i64 e.Y, .int .i64 e.Time] 24) 1 rfl (by simp only [List.getElem?_toArray, List.getElem?_cons_succ, List.getElem?_cons_zero]; try exact rfl) rfl rfl (fun d => by go_simp) ?_; intro b1 hb1l hb1n K hK; simp only [Act.put, List.setIfInBounds_toArray, List.set_cons_succ, List.set_cons_zero]; refine hK _ ?_; clear hK K)
    (refine sg_m ?_; (repeat (first | (refine ql_plain rfl rfl ?_; intro K hK; go_big_quiet_op; go_big_quiet_on) | (refine ql_nilCheck rfl rfl rfl ?_; intro K hK; simp only [Act.put, List.setIfInBounds_toArray, List.set_cons_succ, List.set_cons_zero]; go_big_quiet_on) | fail | (refine ql_skip rfl ?_; intro K hK; simp only [Act.put, List.setIfInBounds_toArray, List.set_cons_succ, List.set_cons_zero]; go_big_quiet_on))); refine ql_nil ?_)
    (refine sg_sl (.cells #[.int .i64 e.ID, .int .i64 e.X, .int .i64 e.Y, .int .i64 e.Time, .slice (some ⟨b1, 0, none⟩) 1 1] 64) 1 rfl (by simp only [List.getElem?_toArray, List.getElem?_cons_succ, List.getElem?_cons_zero]; try exact rfl) rfl rfl (fun d => by go_simp) ?_; intro b2 hb2l hb2n K hK; simp only [Act.put, List.setIfInBounds_toArray, List.set_cons_succ, List.set_cons_zero]; refine hK _ ?_; clear hK K)
    (refine sg_last ?_; (repeat (first | (refine ql_plain rfl rfl ?_; intro K hK; go_big_quiet_op; go_big_quiet_on) | (refine ql_nilCheck rfl rfl rfl ?_; intro K hK; simp only [Act.put, List.setIfInBounds_toArray, List.set_cons_succ, List.set_cons_zero]; go_big_quiet_on) | fail | (refine ql_skip rfl ?_; intro K hK; simp only [Act.put, List.setIfInBounds_toArray, List.set_cons_succ, List.set_cons_zero]; go_big_quiet_on))); refine ql_nil ?_; (repeat (first | (refine pl_plain rfl rfl ?_; intro K hK; go_big_quiet_op; go_big_quiet_on) | (refine pl_nilCheck rfl rfl rfl ?_; intro K hK; simp only [Act.put, List.setIfInBounds_toArray, List.set_cons_succ, List.set_cons_zero]; go_big_quiet_on))); refine pl_nil ?_)
    rintro w1 he1 ⟨⟨_, hf1⟩, hf2⟩
    obtain ⟨d3, rfl⟩ := he1
    have hat := Lib.hid (cells_at0 hf2 rfl)
    replace hf1 := Lib.hid hf1
    refine wpList_append_row _ _ _ 22 64 _ 5 56 infoT Try.underlying22 rfl (by decide) w0.heap.size _ 0 [] (hown.out _ (by (repeat (first | exact Ext.refl _ | assumption | refine Ext.alloc ?_ _ | refine Ext.ext ?_ _ | refine Ext.drew ?_)))) ⟨b2, 0, none⟩ 1 1 [.int .i64 e.ID, .int .i64 e.X, .int .i64 e.Y, .int .i64 e.Time, .slice (some ⟨b1, 0, none⟩) 1 1] (by decide) rfl hat.out (by simp [Value.oneCell']) (by unfold maxLen; omega) (by omega) (by simp <;> omega) rfl rfl rfl rfl ?_
    intro g c1 w2 hown2 hg2
    have hrow := hown.out _ (Ext.refl _)
    have hM2 : Hid (∃ e1 e2 : Grow, D1.size = e1.size ∧ w2 = ((w0.ext e1).alloc (.cells #[.int .i64 (r).Kind, .int .i64 (r).Node, .int .i64 (r).State, .int .i64 (r).Count, .slice a (r).Ts.length c, .int .i64 (r).L.X, .int .i64 (r).L.Y, .int .i64 (r).L.T, .int .i64 (e).Kind, .int .i64 (e).ID, .int .i64 (e).X, .int .i64 (e).Y, .int .i64 (e).Time, .int .i64 (e).Wheel, .int .i64 0, .slice none 0 0] 82)).ext e2) := by
      simp only [hs, List.length_nil]
      refine relay_grown (by (repeat (first | exact Ext.refl _ | assumption | refine Ext.alloc ?_ _ | refine Ext.ext ?_ _ | refine Ext.drew ?_))) hg2 (fun k hk => (hrow.lt k hk).1) ?_ (own_ne' hrow (Mach.heap _ _) (by decide))
      exact heap_at w0 D1 _ (by (repeat (first | exact Ext.refl _ | assumption | refine Ext.alloc ?_ _ | refine Ext.ext ?_ _ | refine Ext.drew ?_)))
    have hf3 : Hid (w2.heap[b1]? = some (.cells #[.int .i64 e.X, .int .i64 e.Y, .int .i64 e.Time] 24)) := heap_grown hg2 hf1.out (own_ne' (ownsRow_ext hrow (by (repeat (first | exact Ext.refl _ | assumption | refine Ext.alloc ?_ _ | refine Ext.ext ?_ _ | refine Ext.drew ?_)))) hf1.out (by decide))
    clear hrow hg2 hf1 hat
    obtain ⟨e1, e2, hsz, rfl⟩ := hM2
    simp only [hsz, hs, List.length_nil]
    replace hown2 := Lib.hid hown2
    go_wp2; refine only_normal ?_
    go_wp2
    all_goals
      (refine bodyPost_ret (v := ?_) (by simp [results, Try.results84, go_sem]; rfl) rfl ?_)
      replace hst2 := hst2.out
      simp only [beq_iff_eq, beq_eq_false_iff_ne] at hb0
      first | rw [if_pos hb0] at hst2 | rw [if_neg hb0] at hst2
      subst hst2
      refine ⟨_, rfl, e1, some ⟨g, 0, none⟩, c1, .slice none 0 0, (by rw [hsz]), ?_, ⟨b1, 0, 1, ?_, ?_⟩, OwnG.none _ _⟩
      · (repeat (first | exact Ext.refl _ | assumption | refine Ext.alloc ?_ _ | refine Ext.ext ?_ _ | refine Ext.drew ?_))
      · refine ownsRow_like (S := fun k => k = w0.heap.size + e1.size) (ownsRow_ext hown2.out (by (repeat (first | exact Ext.refl _ | assumption | refine Ext.alloc ?_ _ | refine Ext.ext ?_ _ | refine Ext.drew ?_)))) (by (repeat (first | exact Like.refl _ _ | refine Like.ext ?_ _ | refine Like.alloc ?_ _ | refine Like.swap ?_ (by simp <;> omega) _ _))) (own_ne' hown2.out (Mach.heap _ _) (by decide))
      · refine SmpIn.like (S := fun k => k = w0.heap.size + e1.size) (e' := 82) (by decide) ((smpIn_one hf3.out).ext (by (repeat (first | exact Ext.refl _ | assumption | refine Ext.alloc ?_ _ | refine Ext.ext ?_ _ | refine Ext.drew ?_)))) (by (repeat (first | exact Like.refl _ _ | refine Like.ext ?_ _ | refine Like.alloc ?_ _ | refine Like.swap ?_ (by simp <;> omega) _ _))) (fun b hb => ⟨_, _, hb ▸ Mach.heap _ _⟩)
end Go.Proofs.Ytendgmnbnnkpnaa.G
namespace Go
open Go.RowKit
theorem lay2 {w0 w : World} {d : Grow} {A O : Obj} {g : Nat} (he : Ext ((w0.ext d).alloc O) w) (hg : w.heap[g]? = some A) (hb : w0.heap.size ≤ g) (hlt : g < w0.heap.size + d.size) :
    ∃ x y z : Grow, g = w0.heap.size + x.size ∧ w0.heap.size + d.size = w0.heap.size + x.size + 1 + y.size ∧ w = ((((w0.ext x).alloc A).ext y).alloc O).ext z := by
  obtain ⟨z, rfl⟩ := he
  have h1 : (w0.ext d).heap[g]? = some A := by
    have h2 := World.heap_ext ((w0.ext d).alloc O) z g (by rw [World.size_alloc, World.size_ext]; omega)
    have h3 := heap_alloc_old (w0.ext d) O (r := g) (by rw [World.size_ext]; omega)
    rw [← h3, ← h2]; exact hg
  obtain ⟨x, y, hx, hw⟩ := Ext.split (w0 := w0) ⟨d, rfl⟩ h1 hb
  have hs := congrArg (fun w => w.heap.size) hw
  simp at hs
  exact ⟨x, y, z, hx, by omega, by rw [hw]⟩
theorem get_set_same (cur : Array Value) (i : Nat) (v : Value) (h : i < cur.size) : (cur.setIfInBounds i v)[i]? = some v := by simp [h]
theorem heap_at' (W : World) (d : Grow) (O : Obj) {Y : World} {k : Nat} (hk : k = W.heap.size + d.size) (h : Ext ((W.ext d).alloc O) Y) : Y.heap[k]? = some O := hk ▸ heap_at W d O h
theorem relay_at {w0 W w2 : World} {row : Option Nat} {k : Nat} {O : Obj} (hE : Ext w0 W) (hg : W.grownBy w2 row) (hrow : ∀ k, row = some k → w0.heap.size ≤ k) (hM : W.heap[k]? = some O) (h0 : w0.heap.size ≤ k) (hne : ∀ j, row = some j → j ≠ k) : ∃ e1 e2 : Grow, k = w0.heap.size + e1.size ∧ w2 = ((w0.ext e1).alloc O).ext e2 :=
  (Ext.of_grown hE hg hrow).split (heap_grown hg hM hne) h0
theorem gen_at {W : World} {p : World → Prop} (h : ∀ W', W' = W → p W') : p W := h W rfl
theorem row_cur {w : World} {B b n c size : Nat} {e : TypeId} {xs : List Value} {cur : Array Value} {fr : Nat × Nat} (h : w.ownsRow B e size (.slice (some ⟨b, 0, none⟩) n c) n xs) (hb : w.heap[b]? = some (.cells cur e fr)) :
    cur.size = c * size ∧ n ≤ c ∧ c ≤ maxLen ∧ cur.toList.take (n * size) = xs := by
  rcases h.2 with ⟨h2, _⟩ | ⟨g, cap, cu, hv, _, hg, hn, hm, hs, ht⟩
  · cases h2
  · simp only [Value.slice.injEq, Option.some.injEq, Addr.mk.injEq, and_true, true_and] at hv
    obtain ⟨rfl, rfl⟩ := hv
    rw [hb] at hg
    simp only [Option.some.injEq, Obj.cells.injEq, true_and] at hg
    obtain ⟨rfl, _⟩ := hg
    exact ⟨hs, hn, hm, ht⟩
theorem row_heap {w : World} {B b n c size : Nat} {e : TypeId} {xs : List Value} (h : w.ownsRow B e size (.slice (some ⟨b, 0, none⟩) n c) n xs) : ∃ cur, w.heap[b]? = some (.cells cur e) ∧ B ≤ b := by
  rcases h.2 with ⟨h2, _⟩ | ⟨g, cap, cu, hv, hb, hg, _⟩
  · cases h2
  · simp only [Value.slice.injEq, Option.some.injEq, Addr.mk.injEq, and_true, true_and] at hv
    obtain ⟨rfl, rfl⟩ := hv
    exact ⟨cu, hg, hb⟩
end Go
namespace Go.Proofs.Ytendgmnbnnkpnaa.G
open Go.RowKit
theorem OwnT.row {w : World} {B : Nat} {v : Value} : ∀ {ts : List Tch}, ts ≠ [] → OwnT w B v ts → ∃ xs, w.ownsRow B 64 5 v ts.length xs
  | [], h, _ => absurd rfl h
  | [_], _, ⟨_, _, h, _⟩ => ⟨_, h⟩
  | [_, _], _, ⟨_, _, _, _, _, h, _⟩ => ⟨_, h⟩
  | _ :: _ :: _ :: _, _, h => h.elim
theorem MachS.lay {w0 w : World} {M : Nat} {r : Rec} {e : Ev} (hne : r.Ts ≠ []) (h : MachS w0 w M r e) : ∃ (x y z : Grow) (c : Nat) (cur : Array Value), M = w0.heap.size + x.size + 1 + y.size ∧
    w = ((((w0.ext x).alloc (.cells cur 64)).ext y).alloc (.cells #[.int .i64 (r).Kind, .int .i64 (r).Node, .int .i64 (r).State, .int .i64 (r).Count, .slice (some ⟨w0.heap.size + x.size, 0, none⟩) (r).Ts.length c, .int .i64 (r).L.X, .int .i64 (r).L.Y, .int .i64 (r).L.T, .int .i64 (e).Kind, .int .i64 (e).ID, .int .i64 (e).X, .int .i64 (e).Y, .int .i64 (e).Time, .int .i64 (e).Wheel, .int .i64 0, .slice none 0 0] 82)).ext z ∧ OwnT w w0.heap.size (.slice (some ⟨w0.heap.size + x.size, 0, none⟩) r.Ts.length c) r.Ts := by
  obtain ⟨d1, a, c, rfl, he, ht, hlt⟩ := h
  obtain ⟨xs, hx⟩ := ht.row hne
  obtain ⟨g, c', hv⟩ := ownsRow_pos hx (List.length_pos_iff.2 hne)
  simp only [Value.slice.injEq, true_and] at hv
  obtain ⟨rfl, rfl⟩ := hv
  obtain ⟨cur, hg, hb⟩ := row_heap hx
  obtain ⟨x, y, z, rfl, h1, h2⟩ := lay2 he hg hb (hlt _ rfl)
  exact ⟨x, y, z, c, cur, h1, h2, ht⟩
set_option maxHeartbeats 1000000 in
theorem begin1 (w0 w : World) (M : Nat) (r : Rec) (e : Ev) (t : Tch) (h1 : TOk t) (hs : r.Ts = [t]) (h7 : r.Kind = 7) (h : MachS w0 w M r e) :
    Calls Try.prog 84 #[.pointer (some ⟨M, 0, none⟩)] w fun x w' => ∃ v, x = .returned v ∧ Mach w0 w' M (beginR r e) e 0 [] := by
  obtain ⟨x, y, z, c, cur, rfl, rfl, ht⟩ := h.lay (by rw [hs]; simp)
  have hw : beginR r e = { r with Ts := [⟨t.ID, latest t, [latest t]⟩, ⟨e.ID, smp e, [smp e]⟩], State := if r.State = 0 then 1 else r.State } := by
    simp [beginR, hs, h7, room]
  rw [hw]
  rw [hs] at ht ⊢
  simp only [List.length_cons, List.length_nil, Nat.zero_add] at ht ⊢
  obtain ⟨g, gc, hown, hsm⟩ := ht
  obtain ⟨q1, q2, q3, q4⟩ := row_cur (cur := cur) hown (heap_at w0 x _ (by (repeat (first | exact Ext.refl _ | assumption | refine Ext.alloc ?_ _ | refine Ext.ext ?_ _ | refine Ext.drew ?_))))
  have p0 := cur_get q4 (j := 0) rfl
  have p1 := cur_get q4 (j := 1) rfl
  have p2 := cur_get q4 (j := 2) rfl
  have p3 := cur_get q4 (j := 3) rfl
  have p4 := cur_get q4 (j := 4) rfl
  have g1 : (cur.setIfInBounds 1 (.int .i64 (latest t).X))[1]? = some (.int .i64 (latest t).X) := get_set_same _ _ _ (by omega)
  have g2 : ((cur.setIfInBounds 1 (.int .i64 (latest t).X)).setIfInBounds 2 (.int .i64 (latest t).Y))[2]? = some (.int .i64 (latest t).Y) := get_set_same _ _ _ (by simp; omega)
  have g3 : (((cur.setIfInBounds 1 (.int .i64 (latest t).X)).setIfInBounds 2 (.int .i64 (latest t).Y)).setIfInBounds 3 (.int .i64 (latest t).T))[3]? = some (.int .i64 (latest t).T) := get_set_same _ _ _ (by simp; omega)
  have hsz5 : 5 ≤ cur.size := by omega
  replace q4 := Lib.hid q4
  replace q1 := Lib.hid q1
  have hsm2 := Lib.hid ((hsm.inn h1.ne).ss)
  clear hown hsm
  have hb7 : (r.Kind == 7) = true := by simp [h7]
  have hrm : room r.Kind = 2 := by simp [room, h7]
  obtain ⟨st, hst⟩ : ∃ st, st = (if r.State = 0 then 1 else r.State) := ⟨_, rfl⟩
  rw [← hst]
  clear hw h h7
  replace hs := Lib.hid hs
  rcases hb0 : (r.State == 0) with _ | _
  all_goals
    have hst2 := Lib.hid hst
    clear hst
    go_enter Try.func84, Try.ntmps84
    go_wp2
    (refine wp_region_calm_ops [0, 1, 2, 3, 4, 5, 6, 7, 8, 9, 10, 11, 12] [] [] [] (by kernel_rfl) (by kernel_rfl) (by simp only [List.filterMap_cons, List.filterMap_nil, List.getElem?_toArray, List.getElem?_cons_succ, List.getElem?_cons_zero]; try exact rfl) (by simp only [List.filterMap_cons, List.filterMap_nil, List.getElem?_toArray, List.getElem?_cons_succ, List.getElem?_cons_zero]; try exact rfl) (by simp only [List.filterMap_cons, List.filterMap_nil, List.getElem?_toArray, List.getElem?_cons_succ, List.getElem?_cons_zero]; try exact rfl) ?_; (repeat (first | (refine ql_plain rfl rfl ?_; intro K hK; go_big_quiet_op; go_big_quiet_on) | (refine ql_nilCheck rfl rfl rfl ?_; intro K hK; simp only [Act.put, List.setIfInBounds_toArray, List.set_cons_succ, List.set_cons_zero]; go_big_quiet_on) | (refine ql_call (fun _ => ((room_any _ _).mono (by rintro e w' ⟨rfl, rfl⟩; exact ⟨rfl, Ext.refl _⟩))) rfl rfl Try.func91 rfl (by kernel_rfl) rfl ?_; intro K hK; simp only [Act.put, List.setIfInBounds_toArray, List.set_cons_succ, List.set_cons_zero]; go_big_quiet_on) | (refine ql_skip rfl ?_; intro K hK; simp only [Act.put, List.setIfInBounds_toArray, List.set_cons_succ, List.set_cons_zero]; go_big_quiet_on))); refine ql_nil ?_)
    refine mw0 ?_; (repeat (first | (refine pl_plain rfl rfl ?_; intro K hK; go_big_quiet_op; go_big_quiet_on) | (refine pl_nilCheck rfl rfl rfl ?_; intro K hK; simp only [Act.put, List.setIfInBounds_toArray, List.set_cons_succ, List.set_cons_zero]; go_big_quiet_on))); refine pl_nil ?_; rintro w1 ⟨d1, rfl⟩ -
    go_wp2; refine only_normal ?_
    rw [hrm]
    go_wp2_with (first | (go_at_call 53; refine (sample_any _ _ _ _ _ _ _).mono ?_; rintro e w' ⟨rfl, ds, rfl⟩) | (go_at_call 65; refine (latest_t t g 0 gc _ h1 (hsm2.out.ext (by (repeat (first | exact Ext.refl _ | assumption | refine Ext.alloc ?_ _ | refine Ext.ext ?_ _ | refine Ext.drew ?_))))).mono ?_; rintro e w' ⟨rfl, dl, rfl⟩))
    refine gen_at (p := fun W => Code.wp _ _ _ _ W) ?_
    intro W hW
    have hrow : Hid (W.ownsRow w0.heap.size 64 5 (.slice (some ⟨w0.heap.size + x.size, 0, none⟩) 1 c) 1 (cellsTch ⟨t.ID, latest t, [latest t]⟩ (w0.heap.size + x.size + 1 + y.size + 1 + z.size + d1.size + ds.size + 1 + dl.size) 0 1)) := by
      rw [hW]
      refine own_join (W := w0) (d := x) (cur := _) (by (repeat (first | exact Ext.refl _ | assumption | refine Ext.alloc ?_ _ | refine Ext.ext ?_ _ | refine Ext.drew ?_))) rfl (by omega) (by simp only [Array.size_setIfInBounds]; exact q1.out) q2 q3 ?_
      rw [Array.toList_setIfInBounds, List.take_set, Array.toList_setIfInBounds, List.take_set, Array.toList_setIfInBounds, List.take_set, Array.toList_setIfInBounds, List.take_set, q4.out]; rfl
    have hgl : Hid (W.heap[w0.heap.size + x.size + 1 + y.size + 1 + z.size + d1.size + ds.size + 1 + dl.size]? = some (.cells #[.int .i64 (latest t).X, .int .i64 (latest t).Y, .int .i64 (latest t).T] 24)) := by
      rw [hW]
      refine heap_at' _ dl _ ?_ (Ext.refl _)
      simp only [World.size_ext, World.size_alloc]
    have hM : Hid (W.heap[w0.heap.size + x.size + 1 + y.size]? = some (.cells #[.int .i64 (r).Kind, .int .i64 (r).Node, .int .i64 (r).State, .int .i64 (r).Count, .slice (some ⟨w0.heap.size + x.size, 0, none⟩) (r).Ts.length c, .int .i64 (r).L.X, .int .i64 (r).L.Y, .int .i64 (r).L.T, .int .i64 (e).Kind, .int .i64 (e).ID, .int .i64 (e).X, .int .i64 (e).Y, .int .i64 (e).Time, .int .i64 (e).Wheel, .int .i64 0, .slice none 0 0] 82)) := by
      rw [hW]
      simp only [hs.out, List.length_cons, List.length_nil, Nat.zero_add]
      refine heap_at' ((w0.ext x).alloc _) y _ ?_ (by (repeat (first | exact Ext.refl _ | assumption | refine Ext.alloc ?_ _ | refine Ext.ext ?_ _ | refine Ext.drew ?_)))
      simp only [World.size_ext, World.size_alloc]
    have hE : Hid (Ext w0 W) := by
      rw [hW]
      show Ext _ _
      (repeat (first | exact Ext.refl _ | assumption | refine Ext.alloc ?_ _ | refine Ext.ext ?_ _ | refine Ext.drew ?_))
    subst hW
    clear g1 g2 g3 p0 p1 p2 p3 p4 q1 q2 q3 q4 hsm2 hsz5
    (refine wp_region_segs (fun _ => none) [([1, 2, 3, 4, 5, 6, 7, 8, 9, 10, 11, 12], .m, 13), ([14], .m, 15)] [] [0] [16, 17, 18, 19, 20] (by kernel_rfl) (by kernel_rfl) (by simp only [List.map_cons, List.map_nil, List.filterMap_cons, List.filterMap_nil, List.getElem?_toArray, List.getElem?_cons_succ, List.getElem?_cons_zero]; try exact rfl) (by simp only [List.filterMap_cons, List.filterMap_nil, List.getElem?_toArray, List.getElem?_cons_succ, List.getElem?_cons_zero]; try exact rfl) (by simp only [List.filterMap_cons, List.filterMap_nil, List.getElem?_toArray, List.getElem?_cons_succ, List.getElem?_cons_zero]; try exact rfl) (by simp only [List.filterMap_cons, List.filterMap_nil, List.getElem?_toArray, List.getElem?_cons_succ, List.getElem?_cons_zero]; try exact rfl) (by decide) ?_)
    (refine sg_m ?_; (repeat (first | (refine ql_plain rfl rfl ?_; intro K hK; go_big_quiet_op; go_big_quiet_on) | (refine ql_nilCheck rfl rfl rfl ?_; intro K hK; simp only [Act.put, List.setIfInBounds_toArray, List.set_cons_succ, List.set_cons_zero]; go_big_quiet_on) | fail | (refine ql_skip rfl ?_; intro K hK; simp only [Act.put, List.setIfInBounds_toArray, List.set_cons_succ, List.set_cons_zero]; go_big_quiet_on))); refine ql_nil ?_)
    (refine sg_sl (.cells #[.int .i64 e.X, .int .i64 e.Y, .int .i64 e.Time] 24) 1 rfl (by simp only [List.getElem?_toArray, List.getElem?_cons_succ, List.getElem?_cons_zero]; try exact rfl) rfl rfl (fun d => by go_simp) ?_; intro b1 hb1l hb1n K hK; simp only [Act.put, List.setIfInBounds_toArray, List.set_cons_succ, List.set_cons_zero]; refine hK _ ?_; clear hK K)
    (refine sg_m ?_; (repeat (first | (refine ql_plain rfl rfl ?_; intro K hK; go_big_quiet_op; go_big_quiet_on) | (refine ql_nilCheck rfl rfl rfl ?_; intro K hK; simp only [Act.put, List.setIfInBounds_toArray, List.set_cons_succ, List.set_cons_zero]; go_big_quiet_on) | fail | (refine ql_skip rfl ?_; intro K hK; simp only [Act.put, List.setIfInBounds_toArray, List.set_cons_succ, List.set_cons_zero]; go_big_quiet_on))); refine ql_nil ?_)
    (refine sg_sl (.cells #[.int .i64 e.ID, .int .i64 e.X, .int .i64 e.Y, .int .i64 e.Time, .slice (some ⟨b1, 0, none⟩) 1 1] 64) 1 rfl (by simp only [List.getElem?_toArray, List.getElem?_cons_succ, List.getElem?_cons_zero]; try exact rfl) rfl rfl (fun d => by go_simp) ?_; intro b2 hb2l hb2n K hK; simp only [Act.put, List.setIfInBounds_toArray, List.set_cons_succ, List.set_cons_zero]; refine hK _ ?_; clear hK K)
    (refine sg_last ?_; (repeat (first | (refine ql_plain rfl rfl ?_; intro K hK; go_big_quiet_op; go_big_quiet_on) | (refine ql_nilCheck rfl rfl rfl ?_; intro K hK; simp only [Act.put, List.setIfInBounds_toArray, List.set_cons_succ, List.set_cons_zero]; go_big_quiet_on) | fail | (refine ql_skip rfl ?_; intro K hK; simp only [Act.put, List.setIfInBounds_toArray, List.set_cons_succ, List.set_cons_zero]; go_big_quiet_on))); refine ql_nil ?_; (repeat (first | (refine pl_plain rfl rfl ?_; intro K hK; go_big_quiet_op; go_big_quiet_on) | (refine pl_nilCheck rfl rfl rfl ?_; intro K hK; simp only [Act.put, List.setIfInBounds_toArray, List.set_cons_succ, List.set_cons_zero]; go_big_quiet_on))); refine pl_nil ?_)
    rintro w1 he1 ⟨⟨_, hf1⟩, hf2⟩
    obtain ⟨d3, rfl⟩ := he1
    have hat := Lib.hid (cells_at0 hf2 rfl)
    replace hf1 := Lib.hid hf1
    refine wpList_append_row _ _ _ 22 64 _ 5 56 infoT Try.underlying22 rfl (by decide) w0.heap.size _ 1 _ (ownsRow_ext hrow.out (by (repeat (first | exact Ext.refl _ | assumption | refine Ext.alloc ?_ _ | refine Ext.ext ?_ _ | refine Ext.drew ?_)))) ⟨b2, 0, none⟩ 1 1 [.int .i64 e.ID, .int .i64 e.X, .int .i64 e.Y, .int .i64 e.Time, .slice (some ⟨b1, 0, none⟩) 1 1] (by decide) rfl hat.out (by simp [Value.oneCell']) (by unfold maxLen; omega) (by omega) (by simp <;> omega) rfl rfl rfl rfl ?_
    intro g2 c2 w2 hown2 hg2
    have hM2 : Hid (∃ e1 e2 : Grow, w0.heap.size + x.size + 1 + y.size = w0.heap.size + e1.size ∧ w2 = ((w0.ext e1).alloc (.cells #[.int .i64 (r).Kind, .int .i64 (r).Node, .int .i64 (r).State, .int .i64 (r).Count, .slice (some ⟨w0.heap.size + x.size, 0, none⟩) (r).Ts.length c, .int .i64 (r).L.X, .int .i64 (r).L.Y, .int .i64 (r).L.T, .int .i64 (e).Kind, .int .i64 (e).ID, .int .i64 (e).X, .int .i64 (e).Y, .int .i64 (e).Time, .int .i64 (e).Wheel, .int .i64 0, .slice none 0 0] 82)).ext e2) := by
      exact relay_at (hE.out.trans (by (repeat (first | exact Ext.refl _ | assumption | refine Ext.alloc ?_ _ | refine Ext.ext ?_ _ | refine Ext.drew ?_)))) hg2 (fun k hk => (hrow.out.lt k hk).1) (heap_some_ext hM.out (by (repeat (first | exact Ext.refl _ | assumption | refine Ext.alloc ?_ _ | refine Ext.ext ?_ _ | refine Ext.drew ?_)))) (by omega) (own_ne' hrow.out hM.out (by decide))
    have hf3 : Hid (w2.heap[b1]? = some (.cells #[.int .i64 e.X, .int .i64 e.Y, .int .i64 e.Time] 24)) := heap_grown hg2 hf1.out (own_ne' (ownsRow_ext hrow.out (by (repeat (first | exact Ext.refl _ | assumption | refine Ext.alloc ?_ _ | refine Ext.ext ?_ _ | refine Ext.drew ?_)))) hf1.out (by decide))
    have hf4 : Hid (w2.heap[w0.heap.size + x.size + 1 + y.size + 1 + z.size + d1.size + ds.size + 1 + dl.size]? = some (.cells #[.int .i64 (latest t).X, .int .i64 (latest t).Y, .int .i64 (latest t).T] 24)) := heap_grown hg2 (heap_some_ext hgl.out (by (repeat (first | exact Ext.refl _ | assumption | refine Ext.alloc ?_ _ | refine Ext.ext ?_ _ | refine Ext.drew ?_)))) (own_ne' hrow.out hgl.out (by decide))
    obtain ⟨gl, hgl⟩ : ∃ gl, gl = w0.heap.size + x.size + 1 + y.size + 1 + z.size + d1.size + ds.size + 1 + dl.size := ⟨_, rfl⟩
    rw [← hgl] at hf4 hown2
    clear hrow hg2 hf1 hat hM hE
    obtain ⟨e1, e2, hsz, rfl⟩ := hM2
    simp only [hsz, hs.out, List.length_cons, List.length_nil, Nat.zero_add]
    replace hown2 := Lib.hid hown2
    go_wp2; refine only_normal ?_
    go_wp2
    all_goals
      (refine bodyPost_ret (v := ?_) (by simp [results, Try.results84, go_sem]; rfl) rfl ?_)
      replace hst2 := hst2.out
      simp only [beq_iff_eq, beq_eq_false_iff_ne] at hb0
      first | rw [if_pos hb0] at hst2 | rw [if_neg hb0] at hst2
      subst hst2
      refine ⟨_, rfl, e1, some ⟨g2, 0, none⟩, c2, .slice none 0 0, hsz, ?_, ⟨gl, 0, 1, b1, 0, 1, ?_, ?_, ?_⟩, OwnG.none _ _⟩
      · (repeat (first | exact Ext.refl _ | assumption | refine Ext.alloc ?_ _ | refine Ext.ext ?_ _ | refine Ext.drew ?_))
      · refine ownsRow_like (S := fun k => k = w0.heap.size + e1.size) (ownsRow_ext hown2.out (by (repeat (first | exact Ext.refl _ | assumption | refine Ext.alloc ?_ _ | refine Ext.ext ?_ _ | refine Ext.drew ?_)))) (by (repeat (first | exact Like.refl _ _ | refine Like.ext ?_ _ | refine Like.alloc ?_ _ | refine Like.swap ?_ (by simp <;> omega) _ _))) (own_ne' hown2.out (Mach.heap _ _) (by decide))
      · refine SmpIn.like (S := fun k => k = w0.heap.size + e1.size) (e' := 82) (by decide) ((smpIn_one hf4.out).ext (by (repeat (first | exact Ext.refl _ | assumption | refine Ext.alloc ?_ _ | refine Ext.ext ?_ _ | refine Ext.drew ?_)))) (by (repeat (first | exact Like.refl _ _ | refine Like.ext ?_ _ | refine Like.alloc ?_ _ | refine Like.swap ?_ (by simp <;> omega) _ _))) (fun b hb => ⟨_, _, hb ▸ Mach.heap _ _⟩)
      · refine SmpIn.like (S := fun k => k = w0.heap.size + e1.size) (e' := 82) (by decide) ((smpIn_one hf3.out).ext (by (repeat (first | exact Ext.refl _ | assumption | refine Ext.alloc ?_ _ | refine Ext.ext ?_ _ | refine Ext.drew ?_)))) (by (repeat (first | exact Like.refl _ _ | refine Like.ext ?_ _ | refine Like.alloc ?_ _ | refine Like.swap ?_ (by simp <;> omega) _ _))) (fun b hb => ⟨_, _, hb ▸ Mach.heap _ _⟩)
end Go.Proofs.Ytendgmnbnnkpnaa.G
