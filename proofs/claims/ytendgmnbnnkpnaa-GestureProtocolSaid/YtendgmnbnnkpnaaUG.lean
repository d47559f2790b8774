/- slices.Clone at samples and at touches, walked. clone of a recogniser, walked. -/
import Derived.Test.YtendgmnbnnkpnaaUC
import Derived.Test.YtendgmnbnnkpnaaUA
import Derived.WalkKit
import Derived.WalkSpells
import Derived.WalkLawsBesides
import Derived.Deep.QuietTactic
import Derived.BigQuiet
import Derived.BigRegion
import Derived.Lib.Hide
import Derived.Deep.RegionWith
set_option linter.unusedSimpArgs false
set_option linter.unusedVariables false
namespace Go.Proofs.Ytendgmnbnnkpnaa.G
open Go.RowKit

/-- what lies in memory of samples -/
def cellsS : List Smp → List Value
  | [] => []
  | s :: l => .int .i64 s.X :: .int .i64 s.Y :: .int .i64 s.T :: cellsS l
theorem cellsS_length (l : List Smp) : (cellsS l).length = l.length * 3 := by
  induction l with
  | nil => rfl
  | cons s l ih => simp only [cellsS, List.length_cons, ih]; omega
theorem cellsS_get (l : List Smp) (i : Nat) (h : i < l.length) : (cellsS l)[i * 3]? = some (.int .i64 (nth l i).X) ∧ (cellsS l)[i * 3 + 1]? = some (.int .i64 (nth l i).Y) ∧ (cellsS l)[i * 3 + 2]? = some (.int .i64 (nth l i).T) := by
  induction l generalizing i with
  | nil => cases h
  | cons s l ih =>
    cases i with
    | zero => exact ⟨rfl, rfl, rfl⟩
    | succ i =>
      have := ih i (by simpa using h)
      rw [show (i + 1) * 3 = i * 3 + 3 by omega]
      exact this
theorem cellsS_one (l : List Smp) : ∀ u ∈ cellsS l, u.oneCell' = true := by
  induction l with
  | nil => intro u hu; cases hu
  | cons s l ih =>
    intro u hu
    simp only [cellsS, List.mem_cons] at hu
    rcases hu with rfl | rfl | rfl | hu
    · rfl
    · rfl
    · rfl
    · exact ih u hu
/-- cells of a slice's row, from their places -/
theorem cellsS_at {w : World} {b off : Nat} {l : List Smp} (h : SsAt w b off l) : ∀ j u, (cellsS l)[j]? = some u → w.cell? ((⟨b, off, none⟩ : Addr).add j) = some u := by
  intro j u hu
  have hj : j < l.length * 3 := by rw [← cellsS_length]; exact (List.getElem?_eq_some_iff.1 hu).1
  rw [Addr.add_lit]
  have hi : j / 3 < l.length := by omega
  have h1 := h (j / 3) hi
  have h2 := cellsS_get l (j / 3) hi
  have : j = j / 3 * 3 ∨ j = j / 3 * 3 + 1 ∨ j = j / 3 * 3 + 2 := by omega
  rcases this with e | e | e
  · rw [e, h2.1] at hu; rw [e]; rw [← hu]; exact h1.1
  · rw [e, h2.2.1] at hu; rw [e]; rw [← hu]; exact h1.2.1
  · rw [e, h2.2.2] at hu; rw [e]; rw [← hu]; exact h1.2.2
/-- an owned row of samples reads as them -/
theorem ownS_at {w : World} {base : Nat} {e : TypeId} {g cap : Nat} {l : List Smp} (h : w.ownsRow base e 3 (.slice (some ⟨g, 0, none⟩) l.length cap) l.length (cellsS l)) : SsAt w g 0 l := by
  intro i hi
  have h2 := cellsS_get l i hi
  have hc := fun j (hj : j < l.length * 3) => h.cellAt j hj
  refine ⟨?_, ?_, ?_⟩
  · rw [Nat.zero_add, hc _ (by omega)]; exact h2.1
  · rw [Nat.zero_add, hc _ (by omega)]; exact h2.2.1
  · rw [Nat.zero_add, hc _ (by omega)]; exact h2.2.2
theorem infoS : (Try.prog.info? 24).map (fun i => (i.zero, i.size, i.bytes)) = some (some (.agg #[.int .i64 0, .int .i64 0, .int .i64 0]), 3, 24) := by kernel_rfl

set_option maxHeartbeats 400000 in
theorem clone_ss (b off cap : Nat) (l : List Smp) (w : World) (hpos : 0 < l.length) (hl : l.length ≤ 1000) (hs : SsAt w b off l) :
    Calls Try.prog 52 #[.slice (some ⟨b, off, none⟩) l.length cap] w fun e w' =>
      ∃ g c, e = .returned (.slice (some ⟨g, 0, none⟩) l.length c) ∧ Ext w w' ∧ w'.ownsRow w.heap.size 24 3 (.slice (some ⟨g, 0, none⟩) l.length c) l.length (cellsS l) := by
  have hcl := Lib.hid (cellsS_length l)
  have hat := Lib.hid (cellsS_at hs)
  have h1 := Lib.hid (cellsS_one l)
  have hb := hs.lt hpos
  have hnil := fun w' => Lib.run_eql_slice_nil (P := Try.prog) w' 57 24 (some ⟨b, off, none⟩) l.length cap 0 0 Try.underlying57
  go_enter Try.func52, Try.ntmps52
  go_wp2_with (at_builtin; refine wpList_append_copy w _ _ 57 24 _ 3 24 infoS Try.underlying57 rfl (by decide) ⟨b, off, none⟩ l.length cap (cellsS l) hcl.out hat.out hb h1.out (by unfold maxLen; omega) (by omega) rfl rfl rfl rfl ?_; intro g c w1 hown he)
  go_ret
  exact ⟨g, c, rfl, he, hown⟩

theorem infoT : (Try.prog.info? 64).map (fun i => (i.zero, i.size, i.bytes)) = some (some (.agg #[.int .i64 0, .int .i64 0, .int .i64 0, .int .i64 0, .slice none 0 0]), 5, 56) := by kernel_rfl
set_option maxHeartbeats 400000 in
theorem clone_ts (b off cap n : Nat) (news : List Value) (w : World) (hpos : 0 < n) (hl : n ≤ 1000) (hlen : news.length = n * 5) (hat : ∀ j u, news[j]? = some u → w.cell? ((⟨b, off, none⟩ : Addr).add j) = some u) (hone : ∀ u ∈ news, u.oneCell' = true) (hb : b < w.heap.size) :
    Calls Try.prog 51 #[.slice (some ⟨b, off, none⟩) n cap] w fun e w' =>
      ∃ g c, e = .returned (.slice (some ⟨g, 0, none⟩) n c) ∧ Ext w w' ∧ w'.ownsRow w.heap.size 64 5 (.slice (some ⟨g, 0, none⟩) n c) n news := by
  replace hlen := Lib.hid hlen
  replace hat := Lib.hid hat
  replace hone := Lib.hid hone
  have hnil := fun w' => Lib.run_eql_slice_nil (P := Try.prog) w' 22 64 (some ⟨b, off, none⟩) n cap 0 0 Try.underlying22
  go_enter Try.func51, Try.ntmps51
  go_wp2_with (at_builtin; refine wpList_append_copy w _ _ 22 64 _ 5 56 infoT Try.underlying22 rfl (by decide) ⟨b, off, none⟩ n cap news hlen.out hat.out hb hone.out (by unfold maxLen; omega) (by omega) rfl rfl rfl rfl ?_; intro g c w1 hown he)
  go_ret
  exact ⟨g, c, rfl, he, hown⟩
set_option maxHeartbeats 400000 in
theorem clone_t0 (a : Option Addr) (cap : Nat) (w : World) :
    Calls Try.prog 51 #[.slice a 0 cap] w fun e w' =>
      ∃ v, e = .returned v ∧ Ext w w' ∧ ((v = .slice none 0 0) ∨ ∃ g, v = .slice (some ⟨g, 0, none⟩) 0 0 ∧ w'.ownsRow w.heap.size 64 5 v 0 []) := by
  have hnil := fun w' => Lib.run_eql_slice_nil (P := Try.prog) w' 22 64 a 0 cap 0 0 Try.underlying22
  cases a with
  | none =>
    go_enter Try.func51, Try.ntmps51
    go_wp2
    go_ret
    refine ⟨_, rfl, ?_, .inl rfl⟩
    (repeat (first | exact Ext.refl _ | assumption | refine Ext.alloc ?_ _ | refine Ext.ext ?_ _ | refine Ext.drew ?_))
  | some p =>
    go_enter Try.func51, Try.ntmps51
    go_wp2
    go_ret
    refine ⟨_, rfl, ?_, .inr ⟨w.heap.size, rfl, ?_⟩⟩
    · (repeat (first | exact Ext.refl _ | assumption | refine Ext.alloc ?_ _ | refine Ext.ext ?_ _ | refine Ext.drew ?_))
    · exact World.ownsRow_made w #[] 0 (Nat.le_refl _) (by decide) rfl
end Go.Proofs.Ytendgmnbnnkpnaa.G
namespace Go.Proofs.Ytendgmnbnnkpnaa.G
open Go.RowKit

def cellsTch (t : Tch) (g o c : Nat) : List Value := [.int .i64 t.ID, .int .i64 t.F.X, .int .i64 t.F.Y, .int .i64 t.F.T, .slice (some ⟨g, o, none⟩) t.S.length c]
/-- samples that a call made itself -/
def OwnS (w : World) (B g c : Nat) (l : List Smp) : Prop := w.ownsRow B 24 3 (.slice (some ⟨g, 0, none⟩) l.length c) l.length (cellsS l)
/-- touches that a call made itself, with their samples -/
def OwnT (w : World) (B : Nat) (v : Value) : List Tch → Prop
  | [] => w.ownsRow B 64 5 v 0 []
  | [t] => ∃ g c, w.ownsRow B 64 5 v 1 (cellsTch t g 0 c) ∧ OwnS w B g c t.S
  | [t, u] => ∃ g c h d, g ≠ h ∧ w.ownsRow B 64 5 v 2 (cellsTch t g 0 c ++ cellsTch u h 0 d) ∧ OwnS w B g c t.S ∧ OwnS w B h d u.S
  | _ => False
theorem cellsTch_one (t : Tch) (g o c : Nat) : ∀ u ∈ cellsTch t g o c, u.oneCell' = true := by
  intro u hu
  simp only [cellsTch, List.mem_cons, List.not_mem_nil, or_false] at hu
  rcases hu with rfl | rfl | rfl | rfl | rfl <;> rfl
theorem cellsTch_at {w : World} {b off : Nat} {t : Tch} {sb so sc : Nat} (h : TchAt w b off t sb so sc) : ∀ j u, (cellsTch t sb so sc)[j]? = some u → w.cell? ((⟨b, off, none⟩ : Addr).add j) = some u := by
  intro j u hu
  rw [Addr.add_lit]
  have hj : j < 5 := (List.getElem?_eq_some_iff.1 hu).1
  have : j = 0 ∨ j = 1 ∨ j = 2 ∨ j = 3 ∨ j = 4 := by omega
  rcases this with rfl | rfl | rfl | rfl | rfl <;> simp only [cellsTch, List.getElem?_cons_zero, List.getElem?_cons_succ, Option.some.injEq] at hu <;> subst hu
  · exact h.c0
  · exact h.c1
  · exact h.c2
  · exact h.c3
  · exact h.c4
/-- an owned row behind an extension, laid open -/
theorem own_split {W w1 : World} {e : TypeId} {size g n c : Nat} {xs : List Value} (he : Ext W w1) (h : w1.ownsRow W.heap.size e size (.slice (some ⟨g, 0, none⟩) n c) n xs) :
    ∃ d1 d2 cur, g = W.heap.size + d1.size ∧ w1 = ((W.ext d1).alloc (.cells cur e)).ext d2 ∧ cur.size = c * size ∧ n ≤ c ∧ c ≤ maxLen ∧ cur.toList.take (n * size) = xs := by
  obtain ⟨_, h⟩ := h
  rcases h with ⟨h, _⟩ | ⟨g', cap, cur, hv, hb, hg, hn, hm, hs, ht⟩
  · cases h
  · simp only [Value.slice.injEq, Option.some.injEq, Addr.mk.injEq, and_true, true_and] at hv
    obtain ⟨rfl, rfl⟩ := hv
    obtain ⟨d1, d2, h1, h2⟩ := he.split hg hb
    exact ⟨d1, d2, cur, h1, h2, hs, hn, hm, ht⟩
theorem cur_get {cur : Array Value} {n : Nat} {xs : List Value} (h : cur.toList.take n = xs) {j : Nat} {v : Value} (hx : xs[j]? = some v) : cur[j]? = some v := by
  subst h
  rw [List.getElem?_take] at hx
  split at hx
  · simpa using hx
  · cases hx
theorem ownsRow_base {w : World} {B B' : Nat} {e : TypeId} {size : Nat} {v : Value} {n : Nat} {xs : List Value} (h : w.ownsRow B e size v n xs) (hb : B' ≤ B) : w.ownsRow B' e size v n xs := by
  refine ⟨h.1, ?_⟩
  rcases h.2 with h2 | ⟨g, cap, cur, hv, hb2, r⟩
  · exact .inl h2
  · exact .inr ⟨g, cap, cur, hv, Nat.le_trans hb hb2, r⟩
theorem OwnT.base {w : World} {B B' : Nat} {v : Value} : ∀ {ts : List Tch}, OwnT w B v ts → B' ≤ B → OwnT w B' v ts
  | [], h, hb => ownsRow_base h hb
  | [_], ⟨g, c, h1, h2⟩, hb => ⟨g, c, ownsRow_base h1 hb, ownsRow_base h2 hb⟩
  | [_, _], ⟨g, c, h, d, h0, h1, h2, h3⟩, hb => ⟨g, c, h, d, h0, ownsRow_base h1 hb, ownsRow_base h2 hb, ownsRow_base h3 hb⟩
  | _ :: _ :: _ :: _, h, _ => h.elim

/-- new samples -/
def FreshS (B : Nat) (l : List Smp) (u : Value) : Facts := fun w => ∃ g c, u = .slice (some ⟨g, 0, none⟩) l.length c ∧ OwnS w B g c l
theorem stable_freshS (B : Nat) (l : List Smp) : Stable (FreshS B l) := fun _ _ _ ⟨g, c, h1, h2⟩ he => ⟨g, c, h1, ownsRow_ext h2 he⟩
theorem clone_mk {w : World} {B sb so sc : Nat} {l : List Smp} (h : Calls Try.prog 52 #[.slice (some ⟨sb, so, none⟩) l.length sc] w fun e w' =>
      ∃ g c, e = .returned (.slice (some ⟨g, 0, none⟩) l.length c) ∧ Ext w w' ∧ w'.ownsRow w.heap.size 24 3 (.slice (some ⟨g, 0, none⟩) l.length c) l.length (cellsS l)) (hB : B ≤ w.heap.size) :
    Calls Try.prog 52 #[.slice (some ⟨sb, so, none⟩) l.length sc] w fun e w' => ∃ u, e = .returned u ∧ Ext w w' ∧ FreshS B l u w' ∧ ∀ b, u.blk = some b → w.heap.size ≤ b ∧ b < w'.heap.size :=
  h.mono fun _ _ ⟨g, c, he, hx, ho⟩ => ⟨_, he, hx, ⟨g, c, rfl, ownsRow_base ho hB⟩, fun b hb => ho.lt b hb⟩

set_option maxHeartbeats 400000 in
theorem clone0 (k n s c lx ly lt : Int) (a : Option Addr) (cap : Nat) (w : World) :
    Calls Try.prog 32 #[.agg #[.int .i64 k, .int .i64 n, .int .i64 s, .int .i64 c, .slice a 0 cap, .int .i64 lx, .int .i64 ly, .int .i64 lt]] w fun e w' =>
      ∃ a' c', e = .returned (.agg #[.int .i64 k, .int .i64 n, .int .i64 s, .int .i64 c, .slice a' 0 c', .int .i64 lx, .int .i64 ly, .int .i64 lt]) ∧ Ext w w' ∧ OwnT w' w.heap.size (.slice a' 0 c') [] := by
  go_enter Try.func32, Try.ntmps32
  go_wp2_with fail
  refine (clone_t0 _ _ _).mono ?_
  rintro e w1 ⟨v, rfl, ⟨d, rfl⟩, hv⟩
  rcases hv with rfl | ⟨g, rfl, hown⟩
  all_goals
    go_wp2
    refine wp_loop_rounds 1 ?_
    rw [rounds_succ]
    go_wp2
    (refine bodyPost_ret (v := ?_) (by simp [results, Try.results32, go_sem]; rfl) rfl ?_)
    refine ⟨_, _, rfl, ?_, ?_⟩
    · (repeat (first | exact Ext.refl _ | assumption | refine Ext.alloc ?_ _ | refine Ext.ext ?_ _ | refine Ext.drew ?_))
  · exact World.ownsRow_nil _ _ _ _
  · refine ownsRow_like (S := fun k => k < w.heap.size + 2) (ownsRow_base (B' := w.heap.size) hown (by simp; omega)) (by (repeat (first | exact Like.refl _ _ | refine Like.ext ?_ _ | refine Like.alloc ?_ _ | refine Like.swap ?_ (by simp <;> omega) _ _))) ?_
    intro b hb; have := (hown.lt b hb).1; simp at this; omega
set_option maxHeartbeats 1000000 in
theorem clone1 (k n s c lx ly lt : Int) (b off cap : Nat) (t : Tch) (sb so sc : Nat) (w : World) (h : TOk t) (hm : TchAt w b off t sb so sc) :
    Calls Try.prog 32 #[.agg #[.int .i64 k, .int .i64 n, .int .i64 s, .int .i64 c, .slice (some ⟨b, off, none⟩) 1 cap, .int .i64 lx, .int .i64 ly, .int .i64 lt]] w fun e w' =>
      ∃ a' c', e = .returned (.agg #[.int .i64 k, .int .i64 n, .int .i64 s, .int .i64 c, .slice a' 1 c', .int .i64 lx, .int .i64 ly, .int .i64 lt]) ∧ Ext w w' ∧ OwnT w' w.heap.size (.slice a' 1 c') [t] := by
  have hb := hm.lt
  have hct := Lib.hid fun w' (he : Ext w w') => clone_ts b off cap 1 (cellsTch t sb so sc) w' (by omega) (by omega) rfl (cellsTch_at (hm.ext he)) (cellsTch_one t sb so sc) (Nat.lt_of_lt_of_le hb he.size)
  have hcs := Lib.hid fun w' (he : Ext w w') => clone_ss sb so sc t.S w' (List.length_pos_iff.2 h.ne) (by have := h.len; omega) (hm.ss.ext he)
  clear hm
  go_enter Try.func32, Try.ntmps32
  go_wp2_with fail
  refine (hct.out _ (by (repeat (first | exact Ext.refl _ | assumption | refine Ext.alloc ?_ _ | refine Ext.ext ?_ _ | refine Ext.drew ?_)))).mono ?_
  rintro e w1 ⟨g, c1, rfl, he, hown⟩
  obtain ⟨d1, d2, cur, rfl, rfl, hsz, hn1, hm1, htk⟩ := own_split he hown
  clear he hown
  have q0 := cur_get htk (j := 0) rfl
  have q1 := cur_get htk (j := 1) rfl
  have q2 := cur_get htk (j := 2) rfl
  have q3 := cur_get htk (j := 3) rfl
  have q4 := cur_get htk (j := 4) rfl
  have hsz5 : 5 ≤ cur.size := by omega
  replace htk := Lib.hid htk
  replace hsz := Lib.hid hsz
  go_wp2
  refine wp_loop_rounds 2 ?_
  rw [rounds_succ]
  go_wp2
  (refine wp_region_calm_ops [0, 1, 2, 3, 4, 5, 6, 7, 8] [9] [10, 11] [12] (by kernel_rfl) (by kernel_rfl) (by simp only [List.filterMap_cons, List.filterMap_nil, List.getElem?_toArray, List.getElem?_cons_succ, List.getElem?_cons_zero]; try exact rfl) (by simp only [List.filterMap_cons, List.filterMap_nil, List.getElem?_toArray, List.getElem?_cons_succ, List.getElem?_cons_zero]; try exact rfl) (by simp only [List.filterMap_cons, List.filterMap_nil, List.getElem?_toArray, List.getElem?_cons_succ, List.getElem?_cons_zero]; try exact rfl) ?_; (repeat (first | (refine ql_plain rfl rfl ?_; intro K hK; go_big_quiet_op; go_big_quiet_on) | (refine ql_nilCheck rfl rfl rfl ?_; intro K hK; simp only [Act.put, List.setIfInBounds_toArray, List.set_cons_succ, List.set_cons_zero]; go_big_quiet_on) | fail | (refine ql_skip rfl ?_; intro K hK; simp only [Act.put, List.setIfInBounds_toArray, List.set_cons_succ, List.set_cons_zero]; go_big_quiet_on))); refine ql_nil ?_)
  refine mw1 (mk_call (f := 52) (stable_freshS (w.heap.size + 2) t.S) (fun _ => clone_mk (hcs.out _ (by (repeat (first | exact Ext.refl _ | assumption | refine Ext.alloc ?_ _ | refine Ext.ext ?_ _ | refine Ext.drew ?_)))) (by simp; omega)) (by simp only [List.getElem?_toArray, List.getElem?_cons_succ, List.getElem?_cons_zero]; try exact rfl) rfl rfl Try.func52 rfl (by kernel_rfl) rfl) ?_; intro u1 hu1 K hK; simp only [Act.put, List.setIfInBounds_toArray, List.set_cons_succ, List.set_cons_zero, List.getElem?_toArray, List.getElem?_cons_succ, List.getElem?_cons_zero, Option.bind_some]; refine hK _ ?_; clear hK K; (repeat (first | (refine pl_plain rfl rfl ?_; intro K hK; go_big_quiet_op; go_big_quiet_on) | (refine pl_nilCheck rfl rfl rfl ?_; intro K hK; simp only [Act.put, List.setIfInBounds_toArray, List.set_cons_succ, List.set_cons_zero]; go_big_quiet_on))); refine pl_nil ?_; rintro w1 he1 ⟨_, hf1⟩
  obtain ⟨g2, c2, rfl, hown2⟩ := hf1
  obtain ⟨d3, rfl⟩ := he1
  go_wp2; refine only_normal ?_
  go_wp2
  rw [rounds_succ]
  go_wp2
  (refine bodyPost_ret (v := ?_) (by simp [results, Try.results32, go_sem]; rfl) rfl ?_)
  refine ⟨_, _, rfl, ?_, g2, c2, ?_, ?_⟩
  · (repeat (first | exact Ext.refl _ | assumption | refine Ext.alloc ?_ _ | refine Ext.ext ?_ _ | refine Ext.drew ?_))
  · refine own_join (W := ?_) (d := d1) (cur := cur.setIfInBounds 4 (.slice (some ⟨g2, 0, none⟩) t.S.length c2)) ?_ ?_ ?_ (by rw [Array.size_setIfInBounds]; exact hsz.out) hn1 hm1 ?_; rotate_left
    · (repeat (first | exact Ext.refl _ | assumption | refine Ext.alloc ?_ _ | refine Ext.ext ?_ _ | refine Ext.drew ?_))
    · simp
    · omega
    rw [Array.toList_setIfInBounds, List.take_set, htk.out]; rfl
  · refine ownsRow_like (S := fun k => k < w.heap.size + 2 ∨ k = w.heap.size + 2 + d1.size) (ownsRow_base (B' := w.heap.size) hown2 (by omega)) (by (repeat (first | exact Like.refl _ _ | refine Like.ext ?_ _ | refine Like.alloc ?_ _ | refine Like.swap ?_ (by simp <;> omega) _ _))) ?_
    intro b hb
    obtain rfl : g2 = b := by simpa [Value.ownBlock] using hb
    have h1 := (own_ge hown2).1
    have h2 := own_ne hown2 (heap_at _ d1 (.cells cur 64) (by (repeat (first | exact Ext.refl _ | assumption | refine Ext.alloc ?_ _ | refine Ext.ext ?_ _ | refine Ext.drew ?_)))) (by decide)
    simp at h2
    omega

theorem append_at {w : World} {p : Addr} {xs ys : List Value} {n : Nat} (hn : xs.length = n) (hx : ∀ j u, xs[j]? = some u → w.cell? (p.add j) = some u) (hy : ∀ j u, ys[j]? = some u → w.cell? (p.add (n + j)) = some u) : ∀ j u, (xs ++ ys)[j]? = some u → w.cell? (p.add j) = some u := by
  intro j u hu
  rw [List.getElem?_append] at hu
  split at hu
  · exact hx j u hu
  · rename_i h
    have := hy (j - xs.length) u hu
    rw [show n + (j - xs.length) = j by omega] at this
    exact this
set_option maxHeartbeats 2000000 in
theorem clone2 (k n s c lx ly lt : Int) (b off cap : Nat) (t u : Tch) (sb so sc ub uo uc : Nat) (w : World) (h : TOk t) (hu : TOk u) (hm : TchAt w b off t sb so sc) (hmu : TchAt w b (off + 5) u ub uo uc) :
    Calls Try.prog 32 #[.agg #[.int .i64 k, .int .i64 n, .int .i64 s, .int .i64 c, .slice (some ⟨b, off, none⟩) 2 cap, .int .i64 lx, .int .i64 ly, .int .i64 lt]] w fun e w' =>
      ∃ a' c', e = .returned (.agg #[.int .i64 k, .int .i64 n, .int .i64 s, .int .i64 c, .slice a' 2 c', .int .i64 lx, .int .i64 ly, .int .i64 lt]) ∧ Ext w w' ∧ OwnT w' w.heap.size (.slice a' 2 c') [t, u] := by
  have hb := hm.lt
  have hct := Lib.hid fun w' (he : Ext w w') => clone_ts b off cap 2 (cellsTch t sb so sc ++ cellsTch u ub uo uc) w' (by omega) (by omega) rfl (append_at (n := 5) rfl (cellsTch_at (hm.ext he)) (fun j v hv => by
    have := cellsTch_at (hmu.ext he) j v hv
    rw [Addr.add_lit] at this ⊢
    rw [← Nat.add_assoc]; exact this)) (fun v hv => by
    rcases List.mem_append.1 hv with hv | hv
    · exact cellsTch_one t sb so sc v hv
    · exact cellsTch_one u ub uo uc v hv) (Nat.lt_of_lt_of_le hb he.size)
  have hcs := Lib.hid fun w' (he : Ext w w') => clone_ss sb so sc t.S w' (List.length_pos_iff.2 h.ne) (by have := h.len; omega) (hm.ss.ext he)
  have hcu := Lib.hid fun w' (he : Ext w w') => clone_ss ub uo uc u.S w' (List.length_pos_iff.2 hu.ne) (by have := hu.len; omega) (hmu.ss.ext he)
  clear hm hmu
  go_enter Try.func32, Try.ntmps32
  go_wp2_with fail
  refine (hct.out _ (by (repeat (first | exact Ext.refl _ | assumption | refine Ext.alloc ?_ _ | refine Ext.ext ?_ _ | refine Ext.drew ?_)))).mono ?_
  rintro e w1 ⟨g, c1, rfl, he, hown⟩
  obtain ⟨d1, d2, cur, rfl, rfl, hsz, hn1, hm1, htk⟩ := own_split he hown
  clear he hown
  have q4 := cur_get htk (j := 4) rfl
  have q5 := cur_get htk (j := 5) rfl
  have q6 := cur_get htk (j := 6) rfl
  have q7 := cur_get htk (j := 7) rfl
  have q8 := cur_get htk (j := 8) rfl
  have q9 := cur_get htk (j := 9) rfl
  have hsz5 : 10 ≤ cur.size := by omega
  replace htk := Lib.hid htk
  replace hsz := Lib.hid hsz
  go_wp2
  refine wp_loop_rounds 3 ?_
  rw [rounds_succ]
  go_wp2
  (refine wp_region_calm_ops [0, 1, 2, 3, 4, 5, 6, 7, 8] [9] [10, 11] [12] (by kernel_rfl) (by kernel_rfl) (by simp only [List.filterMap_cons, List.filterMap_nil, List.getElem?_toArray, List.getElem?_cons_succ, List.getElem?_cons_zero]; try exact rfl) (by simp only [List.filterMap_cons, List.filterMap_nil, List.getElem?_toArray, List.getElem?_cons_succ, List.getElem?_cons_zero]; try exact rfl) (by simp only [List.filterMap_cons, List.filterMap_nil, List.getElem?_toArray, List.getElem?_cons_succ, List.getElem?_cons_zero]; try exact rfl) ?_; (repeat (first | (refine ql_plain rfl rfl ?_; intro K hK; go_big_quiet_op; go_big_quiet_on) | (refine ql_nilCheck rfl rfl rfl ?_; intro K hK; simp only [Act.put, List.setIfInBounds_toArray, List.set_cons_succ, List.set_cons_zero]; go_big_quiet_on) | fail | (refine ql_skip rfl ?_; intro K hK; simp only [Act.put, List.setIfInBounds_toArray, List.set_cons_succ, List.set_cons_zero]; go_big_quiet_on))); refine ql_nil ?_)
  refine mw1 (mk_call (f := 52) (stable_freshS (w.heap.size + 2) t.S) (fun _ => clone_mk (hcs.out _ (by (repeat (first | exact Ext.refl _ | assumption | refine Ext.alloc ?_ _ | refine Ext.ext ?_ _ | refine Ext.drew ?_)))) (by simp; omega)) (by simp only [List.getElem?_toArray, List.getElem?_cons_succ, List.getElem?_cons_zero]; try exact rfl) rfl rfl Try.func52 rfl (by kernel_rfl) rfl) ?_; intro u1 hu1 K hK; simp only [Act.put, List.setIfInBounds_toArray, List.set_cons_succ, List.set_cons_zero, List.getElem?_toArray, List.getElem?_cons_succ, List.getElem?_cons_zero, Option.bind_some]; refine hK _ ?_; clear hK K; (repeat (first | (refine pl_plain rfl rfl ?_; intro K hK; go_big_quiet_op; go_big_quiet_on) | (refine pl_nilCheck rfl rfl rfl ?_; intro K hK; simp only [Act.put, List.setIfInBounds_toArray, List.set_cons_succ, List.set_cons_zero]; go_big_quiet_on))); refine pl_nil ?_; rintro w1 he1 ⟨_, hf1⟩
  obtain ⟨g2, c2, rfl, hown2⟩ := hf1
  obtain ⟨d3, rfl⟩ := he1
  go_wp2; refine only_normal ?_
  go_wp2
  rw [rounds_succ]
  go_wp2
  (refine wp_region_calm_ops [0, 1, 2, 3, 4, 5, 6, 7, 8] [9] [10, 11] [12] (by kernel_rfl) (by kernel_rfl) (by simp only [List.filterMap_cons, List.filterMap_nil, List.getElem?_toArray, List.getElem?_cons_succ, List.getElem?_cons_zero]; try exact rfl) (by simp only [List.filterMap_cons, List.filterMap_nil, List.getElem?_toArray, List.getElem?_cons_succ, List.getElem?_cons_zero]; try exact rfl) (by simp only [List.filterMap_cons, List.filterMap_nil, List.getElem?_toArray, List.getElem?_cons_succ, List.getElem?_cons_zero]; try exact rfl) ?_; (repeat (first | (refine ql_plain rfl rfl ?_; intro K hK; go_big_quiet_op; go_big_quiet_on) | (refine ql_nilCheck rfl rfl rfl ?_; intro K hK; simp only [Act.put, List.setIfInBounds_toArray, List.set_cons_succ, List.set_cons_zero]; go_big_quiet_on) | fail | (refine ql_skip rfl ?_; intro K hK; simp only [Act.put, List.setIfInBounds_toArray, List.set_cons_succ, List.set_cons_zero]; go_big_quiet_on))); refine ql_nil ?_)
  refine mw1 (mk_call (f := 52) (stable_freshS (w.heap.size + 2 + d1.size + 1 + d2.size + d3.size) u.S) (fun _ => clone_mk (hcu.out _ (by (repeat (first | exact Ext.refl _ | assumption | refine Ext.alloc ?_ _ | refine Ext.ext ?_ _ | refine Ext.drew ?_)))) (by simp <;> omega)) (by simp only [List.getElem?_toArray, List.getElem?_cons_succ, List.getElem?_cons_zero]; try exact rfl) rfl rfl Try.func52 rfl (by kernel_rfl) rfl) ?_; intro u1 hu1 K hK; simp only [Act.put, List.setIfInBounds_toArray, List.set_cons_succ, List.set_cons_zero, List.getElem?_toArray, List.getElem?_cons_succ, List.getElem?_cons_zero, Option.bind_some]; refine hK _ ?_; clear hK K; (repeat (first | (refine pl_plain rfl rfl ?_; intro K hK; go_big_quiet_op; go_big_quiet_on) | (refine pl_nilCheck rfl rfl rfl ?_; intro K hK; simp only [Act.put, List.setIfInBounds_toArray, List.set_cons_succ, List.set_cons_zero]; go_big_quiet_on))); refine pl_nil ?_; rintro w1 he1 ⟨_, hf1⟩
  obtain ⟨g3, c3, rfl, hown3⟩ := hf1
  obtain ⟨d4, rfl⟩ := he1
  go_wp2; refine only_normal ?_
  go_wp2
  rw [rounds_succ]
  go_wp2
  (refine bodyPost_ret (v := ?_) (by simp [results, Try.results32, go_sem]; rfl) rfl ?_)
  refine ⟨_, _, rfl, ?_, g2, c2, g3, c3, ?_, ?_, ?_, ?_⟩
  · (repeat (first | exact Ext.refl _ | assumption | refine Ext.alloc ?_ _ | refine Ext.ext ?_ _ | refine Ext.drew ?_))
  · have h1 := (own_ge hown2).2
    have h2 := (own_ge hown3).1
    simp at h1
    omega
  · refine own_join (W := ?_) (d := d1) (cur := (cur.setIfInBounds 4 (.slice (some ⟨g2, 0, none⟩) t.S.length c2)).setIfInBounds 9 (.slice (some ⟨g3, 0, none⟩) u.S.length c3)) ?_ ?_ ?_ (by rw [Array.size_setIfInBounds, Array.size_setIfInBounds]; exact hsz.out) hn1 hm1 ?_; rotate_left
    · (repeat (first | exact Ext.refl _ | assumption | refine Ext.alloc ?_ _ | refine Ext.ext ?_ _ | refine Ext.drew ?_))
    · simp
    · omega
    rw [Array.toList_setIfInBounds, List.take_set, Array.toList_setIfInBounds, List.take_set, htk.out]; rfl
  · refine ownsRow_like (S := fun k => k < w.heap.size + 2 ∨ k = w.heap.size + 2 + d1.size) (ownsRow_ext (ownsRow_base (B' := w.heap.size) hown2 (by omega)) (Ext.ext (Ext.refl _) d4)) (by (repeat (first | exact Like.refl _ _ | refine Like.ext ?_ _ | refine Like.alloc ?_ _ | refine Like.swap ?_ (by simp <;> omega) _ _))) ?_
    intro b hb
    obtain rfl : g2 = b := by simpa [Value.ownBlock] using hb
    have h1 := (own_ge hown2).1
    have h2 := own_ne hown2 (heap_at _ d1 (.cells cur 64) (by (repeat (first | exact Ext.refl _ | assumption | refine Ext.alloc ?_ _ | refine Ext.ext ?_ _ | refine Ext.drew ?_)))) (by decide)
    simp at h2
    omega
  · refine ownsRow_like (S := fun k => k < w.heap.size + 2 ∨ k = w.heap.size + 2 + d1.size) (ownsRow_base (B' := w.heap.size) hown3 (by omega)) (by (repeat (first | exact Like.refl _ _ | refine Like.ext ?_ _ | refine Like.alloc ?_ _ | refine Like.swap ?_ (by simp <;> omega) _ _))) ?_
    intro b hb
    obtain rfl : g3 = b := by simpa [Value.ownBlock] using hb
    have h1 := (own_ge hown3).1
    omega
end Go.Proofs.Ytendgmnbnnkpnaa.G
