/- succeed. -/
import Derived.Test.YtendgmnbnnkpnaaJ1
import Derived.WalkKit
import Derived.WalkSpells
import Derived.WalkLawsBesides
import Derived.Deep.QuietTactic
import Derived.BigQuiet
import Derived.BigRegion
import Derived.Lib.Hide
import Derived.Deep.RegionWith
set_option linter.unusedSimpArgs false
set_option linter.unusedVariables false
namespace Go
open Go.RowKit
section
variable {P : Program}
/-- append onto nil: a new row -/
theorem wpList_append_nil (w : World) {ops : Array Oper} {rest : List Oper} {o : Oper} {a : Act} {Q : Exit → Act → World → Prop} (s x : Operand) (t : TypeId)
    (e : TypeId) (z : Value) (size bytes : Nat) (hinfo : (P.info? e).map (fun i => (i.zero, i.size, i.bytes)) = some (some z, size, bytes)) (ht : P.underlying t = some (.slice e)) (hzs : z.cells.size = size) (hsz : 0 < size)
    (ad : Addr) (m c : Nat) (news : List Value) (hm : 0 < m) (hl : news.length = m * size) (hnews : ∀ j u, news[j]? = some u → w.cell? (ad.add j) = some u) (h1 : ∀ u ∈ news, u.oneCell' = true)
    (h63 : m ≤ maxLen) (hbytes : m * bytes ≤ 140737488355328)
    (hgd : o.guard = none) (ho : o.op = .call { callee := .builtin .append, args := #[s, x], argTypes := #[t, t] }) (hs : a.eval s = .slice none 0 0) (hx : a.eval x = .slice (some ad) m c)
    (h : ∀ g c' w', w'.ownsRow w.heap.size e size (.slice (some ⟨g, 0, none⟩) m c') m news → Ext w w' → wpList P ops Q rest (a.put o.dst (.slice (some ⟨g, 0, none⟩) m c')) w') : wpList P ops Q (o :: rest) a w := by
  obtain ⟨i, hi, hz, hi1, hi2⟩ := info_parts hinfo
  refine wpList_append_own (w := w) hgd s x t ho w.heap.size e i z size bytes ht hi hz hi1 hi2 hzs hsz _ 0 [] hs (World.ownsRow_nil _ _ _ _) ad m c news hx hl hnews h1
    (by omega) (by simpa using hbytes) (Nat.le_refl _) ?_
  intro v' w' hown hg hnil
  obtain ⟨g, c', rfl⟩ := ownsRow_some hown (fun hv => by have := (hnil.1 hv).2; omega)
  rw [List.nil_append, Nat.zero_add] at hown
  rw [Nat.zero_add]
  exact h g c' w' hown (Ext.of_grown (Ext.refl w) hg (fun k hk => by simp [Value.ownBlock] at hk))
end
end Go
namespace Go.Proofs.Ytendgmnbnnkpnaa.G
open Go.RowKit
theorem infoG : (Try.prog.info? 49).map (fun i => (i.zero, i.size, i.bytes)) = some (some (.agg #[.int .i64 0, .int .i64 0, .int .i64 0, .int .i64 0, .int .i64 0, .int .i64 0, .int .i64 0, .int .i64 0, .int .i64 0, .int .i64 0]), 10, 80) := by kernel_rfl
theorem gesL_one (g : Ges) : ∀ u ∈ gesL g, u.oneCell' = true := by
  intro u hu
  simp only [gesL, List.mem_cons, List.not_mem_nil, or_false] at hu
  rcases hu with rfl | rfl | rfl | rfl | rfl | rfl | rfl | rfl | rfl | rfl <;> rfl
theorem gesL_at {w : World} {b : Nat} {g : Ges} {t : TypeId} (h : w.heap[b]? = some (.cells #[.int .i64 (g).Kind, .int .i64 (g).Node, .int .i64 (g).Phase, .int .i64 (g).X, .int .i64 (g).Y, .int .i64 (g).DX, .int .i64 (g).DY, .int .i64 (g).Scale, .int .i64 (g).VX, .int .i64 (g).VY] t)) : ∀ j u, (gesL g)[j]? = some u → w.cell? ((⟨b, 0, none⟩ : Addr).add j) = some u := by
  intro j u hu
  rw [Addr.add_lit, Nat.zero_add]
  simp only [World.cell?, h]
  have : (#[.int .i64 (g).Kind, .int .i64 (g).Node, .int .i64 (g).Phase, .int .i64 (g).X, .int .i64 (g).Y, .int .i64 (g).DX, .int .i64 (g).DY, .int .i64 (g).Scale, .int .i64 (g).VX, .int .i64 (g).VY] : Array Value) = (gesL g).toArray := rfl
  rw [this, List.getElem?_toArray]; exact hu

set_option maxHeartbeats 1000000 in
theorem succeed_m (w0 w : World) (M : Nat) (r : Rec) (e : Ev) (s : Smp) (ask : Int) (hr : ROk { r with L := s }) (h : Mach w0 w M r e 0 []) :
    Calls Try.prog 56 #[.pointer (some ⟨M, 0, none⟩), .agg #[.int .i64 s.X, .int .i64 s.Y, .int .i64 s.T], .int .i64 ask] w fun x w' => x = .returned (.tuple #[]) ∧ Mach w0 w' M (succeed r s ask).1 e (succeed r s ask).2.1 (succeed r s ask).2.2 := by
  obtain ⟨d1, a, c, o, rfl, ⟨d2, rfl⟩, ht, hg⟩ := h
  obtain rfl := hg.2 rfl
  by_cases h3 : r.State = 3
  · have hw : succeed r s ask = (over { r with L := s }, 0, [onceG { r with L := s }]) := by simp [succeed, h3]
    rw [hw]
    have hk : (r.State == 3) = true := by simpa using h3
    obtain ⟨G, hG⟩ : ∃ G, G = onceG { r with L := s } := ⟨_, rfl⟩
    have ho := once_r _ hr
    rw [← hG] at ho ⊢
    simp only [gesV] at ho
    have hrz : ∀ (w' : World), Ext (((w0.ext d1).alloc (.cells #[.int .i64 (({ r with L := s } : Rec)).Kind, .int .i64 (({ r with L := s } : Rec)).Node, .int .i64 (({ r with L := s } : Rec)).State, .int .i64 (({ r with L := s } : Rec)).Count, .slice a (({ r with L := s } : Rec)).Ts.length c, .int .i64 (({ r with L := s } : Rec)).L.X, .int .i64 (({ r with L := s } : Rec)).L.Y, .int .i64 (({ r with L := s } : Rec)).L.T, .int .i64 (e).Kind, .int .i64 (e).ID, .int .i64 (e).X, .int .i64 (e).Y, .int .i64 (e).Time, .int .i64 (e).Wheel, .int .i64 0, .slice none 0 0] 82)).ext d2) w' → RepT w' a r.Ts := fun w' he => ((Mach.turnT ht _).rep).ext he
    replace hrz := Lib.hid hrz
    replace ho := Lib.hid ho
    replace hg := Lib.hid hg
    clear hw h3 ht hG
    go_enter Try.func56, Try.ntmps56
    go_wp2
    (refine wp_region_calm_ops [1, 2, 3, 4, 5, 6, 7, 8, 9] [10] [0] [11, 12, 13, 14] (by kernel_rfl) (by kernel_rfl) (by simp only [List.filterMap_cons, List.filterMap_nil, List.getElem?_toArray, List.getElem?_cons_succ, List.getElem?_cons_zero]; try exact rfl) (by simp only [List.filterMap_cons, List.filterMap_nil, List.getElem?_toArray, List.getElem?_cons_succ, List.getElem?_cons_zero]; try exact rfl) (by simp only [List.filterMap_cons, List.filterMap_nil, List.getElem?_toArray, List.getElem?_cons_succ, List.getElem?_cons_zero]; try exact rfl) ?_; (repeat (first | (refine ql_plain rfl rfl ?_; intro K hK; go_big_quiet_op; go_big_quiet_on) | (refine ql_nilCheck rfl rfl rfl ?_; intro K hK; simp only [Act.put, List.setIfInBounds_toArray, List.set_cons_succ, List.set_cons_zero]; go_big_quiet_on) | (refine ql_call (fun _ => (ho.out _ _ _ (hrz.out _ (by (repeat (first | exact Ext.refl _ | assumption | refine Ext.alloc ?_ _ | refine Ext.ext ?_ _ | refine Ext.drew ?_)))))) rfl rfl Try.func38 rfl (by kernel_rfl) rfl ?_; intro K hK; simp only [Act.put, List.setIfInBounds_toArray, List.set_cons_succ, List.set_cons_zero]; go_big_quiet_on) | (refine ql_skip rfl ?_; intro K hK; simp only [Act.put, List.setIfInBounds_toArray, List.set_cons_succ, List.set_cons_zero]; go_big_quiet_on))); refine ql_nil ?_)
    refine mw1 (mk_sl (.cells #[.int .i64 (G).Kind, .int .i64 (G).Node, .int .i64 (G).Phase, .int .i64 (G).X, .int .i64 (G).Y, .int .i64 (G).DX, .int .i64 (G).DY, .int .i64 (G).Scale, .int .i64 (G).VX, .int .i64 (G).VY] 49) 1 (by simp only [List.getElem?_toArray, List.getElem?_cons_succ, List.getElem?_cons_zero]; try exact rfl) rfl (fun d => by go_simp)) ?_; intro u1 hu1 K hK; simp only [Act.put, List.setIfInBounds_toArray, List.set_cons_succ, List.set_cons_zero, List.getElem?_toArray, List.getElem?_cons_succ, List.getElem?_cons_zero, Option.bind_some]; refine hK _ ?_; clear hK K; (repeat (first | (refine pl_plain rfl rfl ?_; intro K hK; go_big_quiet_op; go_big_quiet_on) | (refine pl_nilCheck rfl rfl rfl ?_; intro K hK; simp only [Act.put, List.setIfInBounds_toArray, List.set_cons_succ, List.set_cons_zero]; go_big_quiet_on))); refine pl_nil ?_; rintro w1 he1 ⟨_, hf1⟩
    obtain ⟨g1, rfl, hf⟩ := hf1
    obtain ⟨d3, rfl⟩ := he1
    replace hf := Lib.hid hf
    have hat := Lib.hid (gesL_at hf.out)
    have h1 := Lib.hid (gesL_one G)
    refine wpList_append_nil _ _ _ 38 49 _ 10 80 infoG Try.underlying38 rfl (by decide) ⟨g1, 0, none⟩ 1 1 (gesL G) (by decide) rfl hat.out h1.out (by unfold maxLen; omega) (by omega) rfl rfl rfl rfl ?_
    intro g c1 w1 hown he
    obtain ⟨d4, rfl⟩ := he
    replace hown := Lib.hid hown
    go_wp2; refine only_normal ?_
    go_wp2_with (go_at_call 37; refine (over_any _ _ _ _ _ _ _ _ _ _ _).mono ?_; rintro e w' ⟨rfl, d, rfl⟩)
    (first | (refine bodyPost_end (results_none rfl _ _ _) rfl ?_) | (refine bodyPost_ret (results_none rfl _ _ _) rfl ?_))
    refine ⟨rfl, d1, none, 0, .slice (some ⟨g, 0, none⟩) 1 c1, rfl, ?_, World.ownsRow_nil _ _ _ _, ?_, fun h => by cases h⟩
    · (repeat (first | exact Ext.refl _ | assumption | refine Ext.alloc ?_ _ | refine Ext.ext ?_ _ | refine Ext.drew ?_))
    · refine ownsRow_like (S := fun k => k = w0.heap.size + d1.size) (ownsRow_base (B' := w0.heap.size) (ownsRow_ext hown.out (Ext.ext (Ext.refl _) d)) (by simp only [World.size_ext, World.size_alloc]; omega)) (by (repeat (first | exact Like.refl _ _ | refine Like.ext ?_ _ | refine Like.alloc ?_ _ | refine Like.swap ?_ (by simp <;> omega) _ _))) ?_
      intro b hb hs
      obtain rfl : g = b := by simpa [Value.ownBlock] using hb
      have := (own_ge hown.out).1
      simp at this
      omega
  · have hw : succeed r s ask = ({ r with L := s, State := 2 }, ask, []) := by simp [succeed, h3]
    rw [hw]
    have hk : (r.State == 3) = false := by simpa using h3
    replace hg := Lib.hid hg
    replace ht := Lib.hid ht
    clear hw h3 hr
    go_enter Try.func56, Try.ntmps56
    go_wp2
    (first | (refine bodyPost_end (results_none rfl _ _ _) rfl ?_) | (refine bodyPost_ret (results_none rfl _ _ _) rfl ?_))
    refine ⟨rfl, d1, a, c, _, rfl, ?_, (Mach.turnT ht.out _).ext (by (repeat (first | exact Ext.refl _ | assumption | refine Ext.alloc ?_ _ | refine Ext.ext ?_ _ | refine Ext.drew ?_))), (Mach.turnG hg.out _).ext (by (repeat (first | exact Ext.refl _ | assumption | refine Ext.alloc ?_ _ | refine Ext.ext ?_ _ | refine Ext.drew ?_)))⟩
    (repeat (first | exact Ext.refl _ | assumption | refine Ext.alloc ?_ _ | refine Ext.ext ?_ _ | refine Ext.drew ?_))
end Go.Proofs.Ytendgmnbnnkpnaa.G
