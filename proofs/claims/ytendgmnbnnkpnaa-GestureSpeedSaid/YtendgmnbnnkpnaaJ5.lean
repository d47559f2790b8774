/- begin. -/
import Derived.Test.YtendgmnbnnkpnaaJ4
import Derived.Test.YtendgmnbnnkpnaaX5
import Derived.WalkKit
import Derived.WalkSpells
import Derived.WalkLawsBesides
import Derived.Deep.QuietTactic
import Derived.BigQuiet
import Derived.BigRegion
import Derived.Lib.Hide
import Derived.Deep.RegionWith
set_option linter.unusedSimpArgs false
set_option linter.unusedVariables false
namespace Go
theorem relay {w0 w' : World} {d : Grow} {O : Obj} (he : Ext w0 w') (hh : w'.heap[w0.heap.size + d.size]? = some O) : ∃ e1 e2 : Grow, d.size = e1.size ∧ w' = ((w0.ext e1).alloc O).ext e2 := by
  obtain ⟨e1, e2, h1, h2⟩ := he.split hh (by omega)
  exact ⟨e1, e2, by omega, h2⟩
theorem relay_grown {w0 W w2 : World} {row : Option Nat} {d : Grow} {O : Obj} (hE : Ext w0 W) (hg : W.grownBy w2 row) (hrow : ∀ k, row = some k → w0.heap.size ≤ k) (hM : W.heap[w0.heap.size + d.size]? = some O) (hne : ∀ k, row = some k → k ≠ w0.heap.size + d.size) : ∃ e1 e2 : Grow, d.size = e1.size ∧ w2 = ((w0.ext e1).alloc O).ext e2 := by
  refine relay (Ext.of_grown hE hg hrow) ?_
  rw [hg.block _ (Array.getElem?_eq_some_iff.1 hM).1 (fun h => hne _ h.symm rfl)]
  exact hM
theorem heap_grown {W w2 : World} {row : Option Nat} {b : Nat} {O : Obj} (hg : W.grownBy w2 row) (h : W.heap[b]? = some O) (hne : ∀ k, row = some k → k ≠ b) : w2.heap[b]? = some O := by
  rw [hg.block _ (Array.getElem?_eq_some_iff.1 h).1 (fun h => hne _ h.symm rfl)]
  exact h
end Go
namespace Go.Proofs.Ytendgmnbnnkpnaa.G
open Go.RowKit
def beginR (r : Rec) (e : Ev) : Rec :=
  if room r.Kind ≤ r.Ts.length then r
  else { r with Ts := (match r.Ts with | [t] => [⟨t.ID, latest t, [latest t]⟩] | l => l) ++ [⟨e.ID, smp e, [smp e]⟩], State := if r.State = 0 then 1 else r.State }
/-- a new row of one sample -/
theorem smpIn_one {w : World} {b : Nat} {x y t : Int} {fr : Nat × Nat} (h : w.heap[b]? = some (.cells #[.int .i64 x, .int .i64 y, .int .i64 t] 24 fr)) : SmpIn w b 0 [⟨x, y, t⟩] :=
  ⟨_, fr, h, fun j u hu => by
    rw [Nat.zero_add, List.getElem?_toArray]
    exact hu⟩
theorem cells_at0 {w : World} {b : Nat} {cur : Array Value} {t : TypeId} {fr : Nat × Nat} {l : List Value} (h : w.heap[b]? = some (.cells cur t fr)) (hl : cur.toList = l) : ∀ j u, l[j]? = some u → w.cell? ((⟨b, 0, none⟩ : Addr).add j) = some u := by
  intro j u hu
  subst hl
  rw [Addr.add_lit, Nat.zero_add]
  simp only [World.cell?, h]
  simpa using hu
set_option maxHeartbeats 1000000 in
theorem begin0 (w0 w : World) (M : Nat) (r : Rec) (e : Ev) (hr : ROk r) (hs : r.Ts = []) (h : MachS w0 w M r e) :
    Calls Try.prog 84 #[.pointer (some ⟨M, 0, none⟩)] w fun x w' => ∃ v, x = .returned v ∧ Mach w0 w' M (beginR r e) e 0 [] := by
  obtain ⟨D1, a, c, rfl, ⟨D2, rfl⟩, ht, _⟩ := h
  have hw : beginR r e = { r with Ts := [⟨e.ID, smp e, [smp e]⟩], State := if r.State = 0 then 1 else r.State } := by
    have : 0 < room r.Kind := by unfold room; split <;> decide
    simp [beginR, hs]; omega
  rw [hw]
  have hrm : room r.Kind = 1 ∨ room r.Kind = 2 := by unfold room; split <;> simp
  rw [hs] at ht ⊢
  simp only [List.length_nil] at ht ⊢
  have hown := Lib.hid fun (w' : World) he => ownsRow_ext (w' := w') ht he
  have htr := hr.over
  clear ht hw
  have hrm1 : decide ((room r.Kind : Int) ≤ 0) = false := by rcases hrm with h | h <;> rw [h] <;> decide
  obtain ⟨st, hst⟩ : ∃ st, st = (if r.State = 0 then 1 else r.State) := ⟨_, rfl⟩
  rw [← hst]
  rcases hb7 : (r.Kind == 7) with _ | _ <;> rcases hb0 : (r.State == 0) with _ | _
  all_goals
    have hst2 := Lib.hid hst
    clear hst
    go_enter Try.func84, Try.ntmps84
    go_wp2
    (refine wp_region_calm_ops [0, 1, 2, 3, 4, 5, 6, 7, 8, 9, 10, 11, 12] [] [] [] (by kernel_rfl) (by kernel_rfl) (by simp only [List.filterMap_cons, List.filterMap_nil, List.getElem?_toArray, List.getElem?_cons_succ, List.getElem?_cons_zero]; try exact rfl) (by simp only [List.filterMap_cons, List.filterMap_nil, List.getElem?_toArray, List.getElem?_cons_succ, List.getElem?_cons_zero]; try exact rfl) (by simp only [List.filterMap_cons, List.filterMap_nil, List.getElem?_toArray, List.getElem?_cons_succ, List.getElem?_cons_zero]; try exact rfl) ?_; (repeat (first | (refine ql_plain rfl rfl ?_; intro K hK; go_big_quiet_op; go_big_quiet_on) | (refine ql_nilCheck rfl rfl rfl ?_; intro K hK; simp only [Act.put, List.setIfInBounds_toArray, List.set_cons_succ, List.set_cons_zero]; go_big_quiet_on) | (refine ql_call (fun _ => ((room_any _ _).mono (by rintro e w' ⟨rfl, rfl⟩; exact ⟨rfl, Ext.refl _⟩))) rfl rfl Try.func91 rfl (by kernel_rfl) rfl ?_; intro K hK; simp only [Act.put, List.setIfInBounds_toArray, List.set_cons_succ, List.set_cons_zero]; go_big_quiet_on) | (refine ql_skip rfl ?_; intro K hK; simp only [Act.put, List.setIfInBounds_toArray, List.set_cons_succ, List.set_cons_zero]; go_big_quiet_on))); refine ql_nil ?_)
    refine mw0 ?_; (repeat (first | (refine pl_plain rfl rfl ?_; intro K hK; go_big_quiet_op; go_big_quiet_on) | (refine pl_nilCheck rfl rfl rfl ?_; intro K hK; simp only [Act.put, List.setIfInBounds_toArray, List.set_cons_succ, List.set_cons_zero]; go_big_quiet_on))); refine pl_nil ?_; rintro w1 ⟨d1, rfl⟩ -
    go_wp2; refine only_normal ?_
    go_wp2_with (go_at_call 53; refine (sample_any _ _ _ _ _ _ _).mono ?_; rintro e w' ⟨rfl, d, rfl⟩)
    (refine wp_region_segs (fun _ => none) [([1, 2, 3, 4, 5, 6, 7, 8, 9, 10, 11, 12], .m, 13), ([14], .m, 15)] [] [0] [16, 17, 18, 19, 20] (by kernel_rfl) (by kernel_rfl) (by simp only [List.map_cons, List.map_nil, List.filterMap_cons, List.filterMap_nil, List.getElem?_toArray, List.getElem?_cons_succ, List.getElem?_cons_zero]; try exact rfl) (by simp only [List.filterMap_cons, List.filterMap_nil, List.getElem?_toArray, List.getElem?_cons_succ, List.getElem?_cons_zero]; try exact rfl) (by simp only [List.filterMap_cons, List.filterMap_nil, List.getElem?_toArray, List.getElem?_cons_succ, List.getElem?_cons_zero]; try exact rfl) (by simp only [List.filterMap_cons, List.filterMap_nil, List.getElem?_toArray, List.getElem?_cons_succ, List.getElem?_cons_zero]; try exact rfl) (by decide) ?_)
    (refine sg_m ?_; (repeat (first | (refine ql_plain rfl rfl ?_; intro K hK; go_big_quiet_op; go_big_quiet_on) | (refine ql_nilCheck rfl rfl rfl ?_; intro K hK; simp only [Act.put, List.setIfInBounds_toArray, List.set_cons_succ, List.set_cons_zero]; go_big_quiet_on) | fail | (refine ql_skip rfl ?_; intro K hK; simp only [Act.put, List.setIfInBounds_toArray, List.set_cons_succ, List.set_cons_zero]; go_big_quiet_on))); refine ql_nil ?_)
    (refine sg_sl (.cells #[.int .i64 e.X, .int .i64 e.Y, .int .i64 e.Time] 24) 1 rfl (by simp only [List.getElem?_toArray, List.getElem?_cons_succ, List.getElem?_cons_zero]; try exact rfl) rfl rfl (fun d => by go_simp) ?_; intro b1 hb1l hb1n K hK; simp only [Act.put, List.setIfInBounds_toArray, List.set_cons_succ, List.set_cons_zero]; refine hK _ ?_; clear hK K)
    (refine sg_m ?_; (repeat (first | (refine ql_plain rfl rfl ?_; intro K hK; go_big_quiet_op; go_big_quiet_on) | (refine ql_nilCheck rfl rfl rfl ?_; intro K hK; simp only [Act.put, List.setIfInBounds_toArray, List.set_cons_succ, List.set_cons_zero]; go_big_quiet_on) | fail | (refine ql_skip rfl ?_; intro K hK; simp only [Act.put, List.setIfInBounds_toArray, List.set_cons_succ, List.set_cons_zero]; go_big_quiet_on))); refine ql_nil ?_)
    (refine sg_sl (.cells #[.int .i64 e.ID, .int .i64 e.X, .int .i64 e.Y, .int .i64 e.Time, .slice (some ⟨b1, 0, none⟩) 1 1] 64) 1 rfl (by simp only [List.getElem?_toArray, List.getElem?_cons_succ, List.getElem?_cons_zero]; try exact rfl) rfl rfl (fun d => by go_simp) ?_; intro b2 hb2l hb2n K hK; simp only [Act.put, List.setIfInBounds_toArray, List.set_cons_succ, List.set_cons_zero]; refine hK _ ?_; clear hK K)
    (refine sg_last ?_; (repeat (first | (refine ql_plain rfl rfl ?_; intro K hK; go_big_quiet_op; go_big_quiet_on) | (refine ql_nilCheck rfl rfl rfl ?_; intro K hK; simp only [Act.put, List.setIfInBounds_toArray, List.set_cons_succ, List.set_cons_zero]; go_big_quiet_on) | fail | (refine ql_skip rfl ?_; intro K hK; simp only [Act.put, List.setIfInBounds_toArray, List.set_cons_succ, List.set_cons_zero]; go_big_quiet_on))); refine ql_nil ?_; (repeat (first | (refine pl_plain rfl rfl ?_; intro K hK; go_big_quiet_op; go_big_quiet_on) | (refine pl_nilCheck rfl rfl rfl ?_; intro K hK; simp only [Act.put, List.setIfInBounds_toArray, List.set_cons_succ, List.set_cons_zero]; go_big_quiet_on))); refine pl_nil ?_)
    rintro w1 he1 ⟨⟨_, hf1⟩, hf2⟩
    obtain ⟨d3, rfl⟩ := he1
    have hat := Lib.hid (cells_at0 hf2 rfl)
    replace hf1 := Lib.hid hf1
    refine wpList_append_row _ _ _ 22 64 _ 5 56 infoT Try.underlying22 rfl (by decide) w0.heap.size _ 0 [] (hown.out _ (by (repeat (first | exact Ext.refl _ | assumption | refine Ext.alloc ?_ _ | refine Ext.ext ?_ _ | refine Ext.drew ?_)))) ⟨b2, 0, none⟩ 1 1 [.int .i64 e.ID, .int .i64 e.X, .int .i64 e.Y, .int .i64 e.Time, .slice (some ⟨b1, 0, none⟩) 1 1] (by decide) rfl hat.out (by simp [Value.oneCell']) (by unfold maxLen; omega) (by omega) (by simp <;> omega) rfl rfl rfl rfl ?_
    intro g c1 w2 hown2 hg2
    have hrow := hown.out _ (Ext.refl _)
    have hM2 : Hid (∃ e1 e2 : Grow, D1.size = e1.size ∧ w2 = ((w0.ext e1).alloc (.cells #[.int .i64 (r).Kind, .int .i64 (r).Node, .int .i64 (r).State, .int .i64 (r).Count, .slice a (r).Ts.length c, .int .i64 (r).L.X, .int .i64 (r).L.Y, .int .i64 (r).L.T, .int .i64 (e).Kind, .int .i64 (e).ID, .int .i64 (e).X, .int .i64 (e).Y, .int .i64 (e).Time, .int .i64 (e).Wheel, .int .i64 0, .slice none 0 0] 82)).ext e2) := by
      simp only [hs, List.length_nil]
      refine relay_grown (by (repeat (first | exact Ext.refl _ | assumption | refine Ext.alloc ?_ _ | refine Ext.ext ?_ _ | refine Ext.drew ?_))) hg2 (fun k hk => (hrow.lt k hk).1) ?_ (own_ne' hrow (Mach.heap _ _) (by decide))
      exact heap_at w0 D1 _ (by (repeat (first | exact Ext.refl _ | assumption | refine Ext.alloc ?_ _ | refine Ext.ext ?_ _ | refine Ext.drew ?_)))
    have hf3 : Hid (w2.heap[b1]? = some (.cells #[.int .i64 e.X, .int .i64 e.Y, .int .i64 e.Time] 24)) := heap_grown hg2 hf1.out (own_ne' (ownsRow_ext hrow (by (repeat (first | exact Ext.refl _ | assumption | refine Ext.alloc ?_ _ | refine Ext.ext ?_ _ | refine Ext.drew ?_)))) hf1.out (by decide))
    clear hrow hg2 hf1 hat
    obtain ⟨e1, e2, hsz, rfl⟩ := hM2
    simp only [hsz, hs, List.length_nil]
    replace hown2 := Lib.hid hown2
    go_wp2; refine only_normal ?_
    go_wp2
    all_goals
      (refine bodyPost_ret (v := ?_) (by simp [results, Try.results84, go_sem]; rfl) rfl ?_)
      replace hst2 := hst2.out
      simp only [beq_iff_eq, beq_eq_false_iff_ne] at hb0
      first | rw [if_pos hb0] at hst2 | rw [if_neg hb0] at hst2
      subst hst2
      refine ⟨_, rfl, e1, some ⟨g, 0, none⟩, c1, .slice none 0 0, (by rw [hsz]), ?_, ⟨b1, 0, 1, ?_, ?_⟩, OwnG.none _ _⟩
      · (repeat (first | exact Ext.refl _ | assumption | refine Ext.alloc ?_ _ | refine Ext.ext ?_ _ | refine Ext.drew ?_))
      · refine ownsRow_like (S := fun k => k = w0.heap.size + e1.size) (ownsRow_ext hown2.out (by (repeat (first | exact Ext.refl _ | assumption | refine Ext.alloc ?_ _ | refine Ext.ext ?_ _ | refine Ext.drew ?_)))) (by (repeat (first | exact Like.refl _ _ | refine Like.ext ?_ _ | refine Like.alloc ?_ _ | refine Like.swap ?_ (by simp <;> omega) _ _))) (own_ne' hown2.out (Mach.heap _ _) (by decide))
      · refine SmpIn.like (S := fun k => k = w0.heap.size + e1.size) (e' := 82) (by decide) ((smpIn_one hf3.out).ext (by (repeat (first | exact Ext.refl _ | assumption | refine Ext.alloc ?_ _ | refine Ext.ext ?_ _ | refine Ext.drew ?_)))) (by (repeat (first | exact Like.refl _ _ | refine Like.ext ?_ _ | refine Like.alloc ?_ _ | refine Like.swap ?_ (by simp <;> omega) _ _))) (fun b hb => ⟨_, _, hb ▸ Mach.heap _ _⟩)
end Go.Proofs.Ytendgmnbnnkpnaa.G
