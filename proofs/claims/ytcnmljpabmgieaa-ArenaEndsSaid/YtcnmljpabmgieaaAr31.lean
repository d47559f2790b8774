/- The reference's arena: decide. -/
import Derived.Test.YtcnmljpabmgieaaAr30
import Derived.WalkKit
import Derived.WalkSpells
import Derived.WalkLawsBesides
import Derived.Deep.QuietTactic
import Derived.BigQuiet
import Derived.BigRegion
import Derived.Lib.Hide
import Derived.Deep.RegionWith
set_option linter.unusedSimpArgs false
set_option linter.unusedVariables false
namespace Go.Proofs.Ytcnmljpabmgieaa.R
open Go.RowKit
/-- a list of numbers that stays readable while a row of verdicts at B or above grows -/
def LRep (B : Nat) (w : World) (la : Option Addr) (lc : Nat) (l : List Int) : Prop := (∃ X : World, X.heap.size ≤ B ∧ Ext X w ∧ RepI X la l) ∨ OI 0 w la lc l
theorem LRep.rep {B : Nat} {w : World} {la : Option Addr} {lc : Nat} {l : List Int} (h : LRep B w la lc l) : RepI w la l := by
  rcases h with ⟨X, _, h1, h2⟩ | h
  · exact h2.ext h1
  · exact h.rep
theorem LRep.ext {B : Nat} {w w' : World} {la : Option Addr} {lc : Nat} {l : List Int} (h : LRep B w la lc l) (he : Ext w w') : LRep B w' la lc l := by
  rcases h with ⟨X, h0, h1, h2⟩ | h
  · exact .inl ⟨X, h0, h1.trans he, h2⟩
  · exact .inr (h.ext he)
theorem LRep.grown {B : Nat} {w w' : World} {row : Option Nat} {la : Option Addr} {lc : Nat} {l : List Int} (h : LRep B w la lc l) (hg : w.grownBy w' row) (hr : ∀ k, row = some k → B ≤ k ∧ ∃ cur fr, w.heap[k]? = some (.cells cur 45 fr)) : LRep B w' la lc l := by
  rcases h with ⟨X, h0, h1, h2⟩ | h
  · exact .inl ⟨X, h0, Ext.of_grown h1 hg (fun k hk => Nat.le_trans h0 (hr k hk).1), h2⟩
  · exact .inr (row_kept h hg (e' := 45) (by decide) (fun k hk => (hr k hk).2))
theorem own_cells {w : World} {B size k : Nat} {T : TypeId} {v : Value} {xs : List Value} (h : w.ownsRow B T size v k xs) : ∀ b, v.ownBlock = some b → B ≤ b ∧ ∃ cur fr, w.heap[b]? = some (.cells cur T fr) := by
  intro b hb
  rcases h.2 with ⟨rfl, _⟩ | ⟨g, cap, cur, rfl, hB, hg, _⟩
  · cases hb
  · obtain rfl : g = b := by simpa [Value.ownBlock] using hb
    exact ⟨hB, cur, _, hg⟩
theorem heap_kept {w w' : World} {row : Option Nat} {b : Nat} {cs : Array Value} {T U : TypeId} {fr : Nat × Nat} (hg : w.grownBy w' row) (h : w.heap[b]? = some (.cells cs T fr)) (hr : ∀ k, row = some k → ∃ cur fr, w.heap[k]? = some (.cells cur U fr)) (hne : T ≠ U) : w'.heap[b]? = some (.cells cs T fr) := by
  rw [hg.block b (Array.getElem?_eq_some_iff.1 h).1 (fun e => by
    obtain ⟨cur, f, hx⟩ := hr b e.symm
    rw [h] at hx
    simp only [Option.some.injEq, Obj.cells.injEq] at hx
    exact hne hx.2.1)]
  exact h
theorem vds_snoc (a : List Int) (m : Int) (l0 : List Vd) (k : Nat) (x : Int) (hx : a[k]? = some x) : (l0 ++ (a.take (k + 1)).map fun x => (⟨x, x == m⟩ : Vd)).flatMap vdL = (l0 ++ (a.take k).map fun x => (⟨x, x == m⟩ : Vd)).flatMap vdL ++ [.int .i64 x, .bool (x == m)] := by
  rw [List.take_add_one, hx]
  simp [vdL]
set_option maxRecDepth 100000 in
set_option maxHeartbeats 4000000 in
theorem rDecide_ok (B : Nat) (a : Arn) (m : Int) (la ha : Option Addr) (lc hc : Nat) (l0 : List Vd) (va : Option Addr) (vc : Nat) (w : World) (hB : B ≤ w.heap.size) (hl : a.Left.length ≤ 1000000) (hl0 : l0.length ≤ 1000) (h : LRep B w la lc a.Left)
    (ho : w.ownsRow B 45 2 (.slice va l0.length vc) l0.length (l0.flatMap vdL)) :
    Calls Try.prog 42 #[.agg #[.int .i64 (a).Members, .slice la (a).Left.length lc, .bool (a).Open, .int .i64 (a).Eager, .slice ha (a).Holds.length hc, .bool (a).Swept, .int .i64 (a).Winner, .bool (a).Done], .int .i64 m, .slice va l0.length vc] w fun e w' => ∃ va' vc', e = .returned (.tuple #[.agg #[.int .i64 ((decideA a m).1).Members, .slice none ((decideA a m).1).Left.length 0, .bool ((decideA a m).1).Open, .int .i64 ((decideA a m).1).Eager, .slice none ((decideA a m).1).Holds.length 0, .bool ((decideA a m).1).Swept, .int .i64 ((decideA a m).1).Winner, .bool ((decideA a m).1).Done], .slice va' (l0.length + (decideA a m).2.length) vc']) ∧ (∀ X : World, X.heap.size ≤ B → Ext X w → Ext X w') ∧
      w'.ownsRow B 45 2 (.slice va' (l0.length + (decideA a m).2.length) vc') (l0.length + (decideA a m).2.length) ((l0 ++ (decideA a m).2).flatMap vdL) := by
  obtain ⟨n, hn⟩ : ∃ n, n = a.Left.length := ⟨_, rfl⟩
  obtain ⟨n0, hn0⟩ : ∃ n, n = l0.length := ⟨_, rfl⟩
  obtain ⟨nv, hnv⟩ : ∃ n, n = n0 + (decideA a m).2.length := ⟨_, rfl⟩
  have hnv2 : nv = n0 + n := by rw [hnv, hn]; simp [decideA]
  rw [← hn] at hl ⊢
  rw [← hn0] at hl0 ho ⊢
  rw [← hnv]
  clear hnv
  replace hn := Lib.hid hn
  replace hn0 := Lib.hid hn0
  replace hnv2 := Lib.hid hnv2
  replace h := Lib.hid h
  replace ho := Lib.hid ho
  go_enter Try.func42, Try.ntmps42
  go_upto_region 1 with fail
  refine gen_at5 (p := fun W => Code.wp _ _ _ _ W) ?_
  intro W hW
  have hh0 : Hid (W.heap[w.heap.size]? = some (.cells #[.int .i64 a.Members, .slice la n lc, .bool a.Open, .int .i64 a.Eager, .slice ha a.Holds.length hc, .bool a.Swept, .int .i64 a.Winner, .bool a.Done] 24)) := Lib.hid (by rw [hW]; exact heap_alloc1 (heap_new _ _ rfl))
  have hh1 : Hid (W.heap[w.heap.size + 1]? = some (.cells #[.int .i64 0, .slice none 0 0, .bool false, .int .i64 0, .slice none 0 0, .bool false, .int .i64 0, .bool false] 24)) := Lib.hid (by rw [hW]; exact heap_new _ _ (by simp))
  have hX : Hid (∀ X : World, X.heap.size ≤ B → Ext X w → Ext X W) := Lib.hid fun X _ hx => hx.trans (by rw [hW]; (repeat (first | exact Ext.refl _ | assumption | refine Ext.alloc ?_ _ | refine Ext.ext ?_ _ | refine Ext.drew ?_)))
  have hL : Hid (LRep B W la lc a.Left) := Lib.hid (h.out.ext (by rw [hW]; (repeat (first | exact Ext.refl _ | assumption | refine Ext.alloc ?_ _ | refine Ext.ext ?_ _ | refine Ext.drew ?_))))
  have hr : Hid (W.ownsRow B 45 2 (.slice va n0 vc) n0 (l0.flatMap vdL)) := Lib.hid (ownsRow_ext ho.out (by rw [hW]; (repeat (first | exact Ext.refl _ | assumption | refine Ext.alloc ?_ _ | refine Ext.ext ?_ _ | refine Ext.drew ?_))))
  have hsz : Hid (B ≤ W.heap.size) := Lib.hid (by rw [hW]; simp; omega)
  have hBR : Hid (w.heap.size ≤ w.heap.size) := Lib.hid (Nat.le_refl _)
  obtain ⟨R, hR⟩ : ∃ R, w.heap.size = R := ⟨_, rfl⟩
  have hwR : Hid (w.heap.size ≤ R) := Lib.hid (by omega)
  clear hBR
  simp only [hR] at hh0 hh1 ⊢
  clear hW hR h ho
  go_wp2
  go_loopg [2, 8] n (fun g v2 v8 wr => ∃ (k : Nat) (va : Option Addr) (vc : Nat), v2 = .slice va (n0 + k) vc ∧ v8 = .int .i64 k ∧ k ≤ n ∧ g = n - k ∧ Hid (wr.heap[R]? = some (.cells #[.int .i64 a.Members, .slice la n lc, .bool a.Open, .int .i64 a.Eager, .slice ha a.Holds.length hc, .bool a.Swept, .int .i64 a.Winner, .bool a.Done] 24)) ∧ Hid (wr.heap[R + 1]? = some (.cells #[.int .i64 0, .slice none 0 0, .bool false, .int .i64 0, .slice none 0 0, .bool false, .int .i64 0, .bool false] 24)) ∧ Hid (∀ X : World, X.heap.size ≤ B → Ext X w → Ext X wr) ∧ Hid (LRep B wr la lc a.Left) ∧ Hid (wr.ownsRow B 45 2 (.slice va (n0 + k) vc) (n0 + k) ((l0 ++ (a.Left.take k).map fun x => (⟨x, x == m⟩ : Vd)).flatMap vdL)) ∧ Hid (B ≤ wr.heap.size))
  case atStart => exact ⟨0, va, vc, rfl, rfl, Nat.zero_le _, rfl, hh0, hh1, hX, hL, Lib.hid (by simpa using hr.out), hsz⟩
  case round =>
    clear hh0 hh1 hX hL hr hsz
    obtain ⟨k, va, vc, rfl, rfl, hk, hg, hh0, hh1, hX, hL, hr, hsz⟩ := hrel
    obtain ⟨W, rfl⟩ : ∃ W, W = wr := ⟨_, rfl⟩
    replace hg := Lib.hid hg
    have y1 := heap_cell hh0.out 1
    have y0 := heap_cell hh0.out 0
    simp only [List.getElem?_toArray, List.getElem?_cons_succ, List.getElem?_cons_zero] at y0 y1
    have yl := (Array.getElem?_eq_some_iff.1 hh0.out).1
    have yl1 := (Array.getElem?_eq_some_iff.1 hh1.out).1
    by_cases hlt : k < n
    · obtain ⟨x, hx⟩ : ∃ x, a.Left[k]? = some x := ⟨_, List.getElem?_eq_getElem (by have := hn.out; omega)⟩
      have htk := Lib.hid (vds_snoc a.Left m l0 k x hx)
      obtain ⟨b, off, rfl, hi⟩ := hL.out.rep.resolve_left (by intro h; rw [h] at hx; cases hx)
      have c0 := hi k x hx
      have hbl := World.block_lt_of_cell? W _ c0
      simp only at hbl
      clear hi hx
      obtain ⟨q, hq⟩ : ∃ q, (x == m) = q := ⟨_, rfl⟩
      rw [hq] at htk
      go_wp2
      (refine wp_region_calm_ops [0, 1, 2, 3, 4, 5, 6, 7, 8, 9, 10, 11, 12, 13] [14] [] [15, 16] (by kernel_rfl) (by kernel_rfl) (by simp only [List.filterMap_cons, List.filterMap_nil, List.getElem?_toArray, List.getElem?_cons_succ, List.getElem?_cons_zero]; try exact rfl) (by simp only [List.filterMap_cons, List.filterMap_nil, List.getElem?_toArray, List.getElem?_cons_succ, List.getElem?_cons_zero]; try exact rfl) (by simp only [List.filterMap_cons, List.filterMap_nil, List.getElem?_toArray, List.getElem?_cons_succ, List.getElem?_cons_zero]; try exact rfl) ?_; (repeat (first | (refine ql_plain rfl rfl ?_; intro K hK; go_big_quiet_op; go_big_quiet_on) | (refine ql_nilCheck rfl rfl rfl ?_; intro K hK; simp only [Act.put, List.setIfInBounds_toArray, List.set_cons_succ, List.set_cons_zero]; go_big_quiet_on) | fail | (refine ql_skip rfl ?_; intro K hK; simp only [Act.put, List.setIfInBounds_toArray, List.set_cons_succ, List.set_cons_zero]; go_big_quiet_on))); refine ql_nil ?_)
      refine mw1 (mk_sl (.cells #[.int .i64 x, .bool q] 45) 1 (by simp only [List.getElem?_toArray, List.getElem?_cons_succ, List.getElem?_cons_zero]; try exact rfl) rfl (fun d => by go_simp)) ?_; intro u1 hu1 K hK; simp only [Act.put, List.setIfInBounds_toArray, List.set_cons_succ, List.set_cons_zero, List.getElem?_toArray, List.getElem?_cons_succ, List.getElem?_cons_zero, Option.bind_some]; refine hK _ ?_; clear hK K; (repeat (first | (refine pl_plain rfl rfl ?_; intro K hK; go_big_quiet_op; go_big_quiet_on) | (refine pl_nilCheck rfl rfl rfl ?_; intro K hK; simp only [Act.put, List.setIfInBounds_toArray, List.set_cons_succ, List.set_cons_zero]; go_big_quiet_on))); refine pl_nil ?_; rintro w1 he1 ⟨_, hf1⟩
      obtain ⟨b1, rfl, hf⟩ := hf1
      obtain ⟨d3, rfl⟩ := he1
      have hat := Lib.hid (cells_at2 hf rfl)
      clear hf
      refine wpList_append_row _ _ _ 30 45 _ 2 16 infoV Try.underlying30 rfl (by decide) B _ (n0 + k) _ (ownsRow_ext hr.out (by (repeat (first | exact Ext.refl _ | assumption | refine Ext.alloc ?_ _ | refine Ext.ext ?_ _ | refine Ext.drew ?_)))) ⟨b1, 0, none⟩ 1 1 [.int .i64 x, .bool q] (by decide) rfl hat.out (by simp [Value.oneCell']) (by unfold maxLen; omega) (by omega) (Nat.le_trans hsz.out (by simp)) rfl rfl rfl rfl ?_
      intro g2 c2 w2 hown hg2
      have ho2 := own_cells (ownsRow_ext hr.out (w' := W.ext d3) (by (repeat (first | exact Ext.refl _ | assumption | refine Ext.alloc ?_ _ | refine Ext.ext ?_ _ | refine Ext.drew ?_))))
      have hb2 := Lib.hid (heap_kept hg2 (heap_some_ext hh0.out (by (repeat (first | exact Ext.refl _ | assumption | refine Ext.alloc ?_ _ | refine Ext.ext ?_ _ | refine Ext.drew ?_)))) (fun k hk => (ho2 k hk).2) (by decide))
      have hb3 := Lib.hid (heap_kept hg2 (heap_some_ext hh1.out (by (repeat (first | exact Ext.refl _ | assumption | refine Ext.alloc ?_ _ | refine Ext.ext ?_ _ | refine Ext.drew ?_)))) (fun k hk => (ho2 k hk).2) (by decide))
      have hX2 : Hid (∀ X : World, X.heap.size ≤ B → Ext X w → Ext X w2) := Lib.hid fun X h1 h2 => Ext.of_grown ((hX.out X h1 h2).trans (by (repeat (first | exact Ext.refl _ | assumption | refine Ext.alloc ?_ _ | refine Ext.ext ?_ _ | refine Ext.drew ?_)))) hg2 (fun k hk => Nat.le_trans h1 (ho2 k hk).1)
      have hL2 := Lib.hid ((hL.out.ext (w' := W.ext d3) (by (repeat (first | exact Ext.refl _ | assumption | refine Ext.alloc ?_ _ | refine Ext.ext ?_ _ | refine Ext.drew ?_)))).grown hg2 ho2)
      have hsz2 : Hid (B ≤ w2.heap.size) := Lib.hid (Nat.le_trans hsz.out (by have := hg2.size; simp at this; omega))
      have hr2 := Lib.hid (by rw [← htk.out] at hown; exact hown)
      clear hown hg2 ho2 hat hr hh0 hh1 hX hL hsz y0 y1 yl yl1
      go_wp2; refine only_normal ?_
      go_wp2
      go_roundg (n - (k + 1))
      case measure => have := hg.out; omega
      case rel => exact ⟨k + 1, _, _, rfl, by go_num, by omega, rfl, hb2, hb3, hX2, hL2, hr2, hsz2⟩
    · obtain rfl : k = n := by omega
      have hdv : Hid ((l0 ++ a.Left.map fun x => (⟨x, x == m⟩ : Vd)) = l0 ++ (decideA a m).2) := Lib.hid (by simp [decideA])
      have z0 := heap_cell hh1.out 0
      have z1 := heap_cell hh1.out 1
      have z2 := heap_cell hh1.out 2
      have z3 := heap_cell hh1.out 3
      have z4 := heap_cell hh1.out 4
      have z5 := heap_cell hh1.out 5
      have z6 := heap_cell hh1.out 6
      have z7 := heap_cell hh1.out 7
      have zf := heap_thaw hh1.out
      simp only [List.getElem?_toArray, List.getElem?_cons_succ, List.getElem?_cons_zero] at z0 z1 z2 z3 z4 z5 z6 z7
      obtain ⟨pg, ph⟩ := put8 (v0 := .int .i64 a.Members) (v1 := .slice none 0 0) (v2 := .bool false) (v3 := .int .i64 (-1)) (v4 := .slice none 0 0) (v5 := .bool false) (v6 := .int .i64 m) (v7 := .bool true) hh1.out
      have hd1 : ∀ k, some (R + 1) = some k → ∃ cur fr, W.heap[k]? = some (.cells cur 24 fr) := fun k e => by cases e; exact ⟨_, _, hh1.out⟩
      obtain ⟨W8, hW8⟩ : ∃ W8, W8 = (((((((W.setCell ⟨R + 1, 0, none⟩ (.int .i64 a.Members)).setCell ⟨R + 1, 1, none⟩ (.slice none 0 0)).setCell ⟨R + 1, 2, none⟩ (.bool false)).setCell ⟨R + 1, 3, none⟩ (.int .i64 (-1))).setCell ⟨R + 1, 4, none⟩ (.slice none 0 0)).setCell ⟨R + 1, 5, none⟩ (.bool false)).setCell ⟨R + 1, 6, none⟩ (.int .i64 m)).setCell ⟨R + 1, 7, none⟩ (.bool true) := ⟨_, rfl⟩
      rw [← hW8] at pg ph
      have hr2 := Lib.hid (row_kept hr.out pg (e' := 24) (by decide) hd1)
      have hX2 : Hid (∀ X : World, X.heap.size ≤ B → Ext X w → Ext X W8) := Lib.hid fun X h1 h2 => Ext.of_grown (hX.out X h1 h2) pg (fun q hq => by cases hq; have := h2.size; have := hwR.out; omega)
      have w0 := heap_cell ph 0
      have w1 := heap_cell ph 1
      have w2 := heap_cell ph 2
      have w3 := heap_cell ph 3
      have w4 := heap_cell ph 4
      have w5 := heap_cell ph 5
      have w6 := heap_cell ph 6
      have w7 := heap_cell ph 7
      have wl := (Array.getElem?_eq_some_iff.1 ph).1
      simp only [List.getElem?_toArray, List.getElem?_cons_succ, List.getElem?_cons_zero] at w0 w1 w2 w3 w4 w5 w6 w7
      replace hW8 := Lib.hid hW8
      clear ph hd1 pg
      have hfin : Hid (W8.ownsRow B 45 2 (.slice va (n0 + k) vc) (n0 + k) ((l0 ++ (decideA a m).2).flatMap vdL)) := Lib.hid (by
        have := hr2.out
        rw [List.take_of_length_le (by have := hn.out; omega), hdv.out] at this
        exact this)
      clear hr2 hdv
      go_wp2
      rw [← hW8.out]
      refine bodyPost_ret (v := ?_) (by simp [results, Try.results42, go_sem, w0, w1, w2, w3, w4, w5, w6, w7]; rfl) rfl ?_
      exact ⟨va, vc, by rw [hnv2.out]; rfl, hX2.out, by rw [hnv2.out]; exact hfin.out⟩
end Go.Proofs.Ytcnmljpabmgieaa.R
