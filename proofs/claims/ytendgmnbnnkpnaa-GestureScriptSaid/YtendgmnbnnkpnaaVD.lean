/- The reference: down. -/
import Derived.Test.YtendgmnbnnkpnaaVB
import Derived.Test.YtendgmnbnnkpnaaUL
import Derived.WalkKit
import Derived.WalkSpells
import Derived.WalkLawsBesides
import Derived.Deep.QuietTactic
import Derived.BigQuiet
import Derived.BigRegion
import Derived.Lib.Hide
import Derived.Deep.RegionWith
set_option linter.unusedSimpArgs false
set_option linter.unusedVariables false
namespace Go
open Go.RowKit
theorem run_append_empty {P : Program} (w : World) (t ty e : TypeId) (i : TypeInfo) (ht : P.underlying t = some (.slice e)) (hi : P.info? e = some i) (ad : Option Addr) (c : Nat) :
    (Builtin.append_ #[t, t] ty #[.slice none 0 0, .slice ad 0 c]).run P w = .ok (.slice none 0 0) w := by
  cases ad with
  | none => simp [Builtin.append_, run_underlying ht, sizeOf, typeInfo, hi, Builtin.lenOf, run_firstCells_none]
  | some p =>
    have hf := run_firstCells_some (P := P) w i.size 0 p 0 c [] (by simp) (by simp)
    simp [Builtin.append_, run_underlying ht, sizeOf, typeInfo, hi, Builtin.lenOf, hf]
/-- append of nothing onto nil -/
theorem wpList_append_empty {P : Program} (w : World) {ops : Array Oper} {rest : List Oper} {o : Oper} {a : Act} {Q : Exit → Act → World → Prop} (s x : Operand) (t e : TypeId)
    (hinfo : (P.info? e).isSome = true) (ht : P.underlying t = some (.slice e)) (ad : Option Addr) (c : Nat)
    (hgd : o.guard = none) (ho : o.op = .call { callee := .builtin .append, args := #[s, x], argTypes := #[t, t] }) (hs : a.eval s = .slice none 0 0) (hx : a.eval x = .slice ad 0 c)
    (h : wpList P ops Q rest (a.put o.dst (.slice none 0 0)) w) : wpList P ops Q (o :: rest) a w := by
  obtain ⟨i, hi⟩ := Option.isSome_iff_exists.1 hinfo
  refine wpList_plain hgd fun K hK => ?_
  have hrun := run_append_empty (P := P) w t o.type e i ht hi ad c
  unfold Oper.wp
  simp [execOp, ho, resolve, invoke, builtin, hs, hx, hrun, Result.andThen]
  exact hK _ _ h
end Go
namespace Go.Proofs.Ytendgmnbnnkpnaa.G
open Go.RowKit
theorem infoT' : (Try.prog.info? 64).isSome = true := by kernel_rfl
set_option maxRecDepth 100000 in
set_option maxHeartbeats 8000000 in
theorem r_down0 (r : Rec) (h : ROk r) (hs : r.Ts = []) (e : Ev) (hp : placed (smp e) = true) (a : Option Addr) (cap : Nat) (w : World) :
    Calls Try.prog 77 #[.agg #[.int .i64 (r).Kind, .int .i64 (r).Node, .int .i64 (r).State, .int .i64 (r).Count, .slice a (r).Ts.length cap, .int .i64 (r).L.X, .int .i64 (r).L.Y, .int .i64 (r).L.T], .int .i64 e.ID, .agg #[.int .i64 e.X, .int .i64 e.Y, .int .i64 e.Time]] w (RO (down r e) w) := by
  have hto := Lib.hid fun w' => r_touch r h e.ID a cap w' (.inl hs)
  have hfi : fi r.Ts e.ID = -1 := by rw [hs]; rfl
  have hd := Lib.hid fun w' => r_dist (smp e) r.L hp h.last w'
  have hf : ∀ (a : Option Addr) (cap : Nat) (w : World), _ := fun a cap w => r_fail r a cap w
  obtain ⟨D1, D2⟩ := dist_bd hp h.last
  have hrm : 0 < room r.Kind := by unfold room; split <;> decide
  have hw : down r e = if r.Kind = 2 ∧ r.Count = 1 ∧ 8 < dist (smp e) r.L then fail r else ({ r with Ts := [⟨e.ID, smp e, [smp e]⟩], State := if r.State = 0 then 1 else r.State }, 0, []) := by
    simp only [down, hs, ne_eq, not_true, and_false, if_false, List.length_nil, Nat.not_le_of_lt hrm, List.nil_append]
  rw [hw]
  clear hw hrm
  have hl : r.Ts.length = 0 := by rw [hs]; rfl
  rw [hfi] at hto
  simp only [hl] at hto hf ⊢
  replace hf := Lib.hid hf
  obtain ⟨D, hD⟩ : ∃ D, dist (smp e) r.L = D := ⟨_, rfl⟩
  rw [hD] at hd D1 D2 ⊢
  clear hD
  simp only [smp] at hd ⊢
  clear hs hp h hfi hl
  by_cases hq : r.Kind = 2 ∧ r.Count = 1 ∧ 8 < D
  · rw [if_pos hq]
    obtain ⟨q1, q2, q3⟩ := hq
    have b2 : (r.Kind == 2) = true := by simp [q1]
    have c1 : (r.Count == 1) = true := by simp [q2]
    have d8 : decide (8 < D) = true := by simpa using q3
    clear q1 q2 q3
    go_enter Try.func77, Try.ntmps77
    go_wp2_with fail; refine (hto.out _).mono ?_; rintro _ _ ⟨rfl, d, rfl⟩
    go_wp2_with fail; refine (hd.out _).mono ?_; rintro _ _ ⟨rfl, d1, rfl⟩
    go_wp2_with fail; refine (hf.out _ _ _).mono ?_; rintro _ _ ⟨rfl, d2, rfl⟩
    go_wp2
    (refine bodyPost_ret (v := ?_) (by simp [results, Try.results77, go_sem]; rfl) rfl ?_)
    refine ⟨none, 0, none, 0, 0, rfl, ?_, .inl rfl, OwnG.none _ _⟩
    (repeat (first | exact Ext.refl _ | assumption | refine Ext.alloc ?_ _ | refine Ext.ext ?_ _ | refine Ext.drew ?_))
  · rw [if_neg hq]
    have bx : (r.Kind == 2) = false ∨ (r.Kind == 2) = true ∧ (r.Count == 1) = false ∨ (r.Kind == 2) = true ∧ (r.Count == 1) = true ∧ decide (8 < D) = false := by
      rcases b2 : (r.Kind == 2) with _ | _
      · exact .inl rfl
      · rcases c1 : (r.Count == 1) with _ | _
        · exact .inr (.inl ⟨rfl, rfl⟩)
        · simp only [beq_iff_eq] at b2 c1
          exact .inr (.inr ⟨rfl, rfl, by simp only [decide_eq_false_iff_not]; exact fun h => hq ⟨b2, c1, h⟩⟩)
    clear hq
    obtain ⟨st, hst⟩ : ∃ st, st = (if r.State = 0 then 1 else r.State) := ⟨_, rfl⟩
    rw [← hst]
    rcases hb0 : (r.State == 0) with _ | _
    all_goals
      have hst2 := Lib.hid hst
      rcases bx with b2 | ⟨b2, c1⟩ | ⟨b2, c1, d8⟩
    all_goals
      clear hst
      go_enter Try.func77, Try.ntmps77
      go_wp2_with fail; refine (hto.out _).mono ?_; rintro _ _ ⟨rfl, d, rfl⟩
      first | (go_wp2_with fail; refine (hd.out _).mono ?_; rintro _ _ ⟨rfl, d1, rfl⟩) | skip
      go_wp2_with (first | (at_builtin; refine wpList_append_empty _ _ _ 22 64 infoT' Try.underlying22 a cap rfl rfl rfl rfl ?_) | (at_builtin; refine wpList_append_nil _ _ _ 22 64 _ 5 56 infoT Try.underlying22 rfl (by decide) _ 1 1 [.int .i64 e.ID, .int .i64 e.X, .int .i64 e.Y, .int .i64 e.Time, .slice (some ⟨w.heap.size + 1 + 1 + 1 + d.size, 0, none⟩) 1 1] (by decide) rfl ?_ ?_ (by unfold maxLen; omega) (by omega) rfl rfl rfl rfl ?_; exact cells_at0 (heap_new _ _ (by simp only [World.size_ext, World.size_alloc])) rfl; simp [Value.oneCell']; intro g c wa howna hea; obtain ⟨d5, rfl⟩ := hea; replace howna := Lib.hid howna) | (at_builtin; refine wpList_append_nil _ _ _ 22 64 _ 5 56 infoT Try.underlying22 rfl (by decide) _ 1 1 [.int .i64 e.ID, .int .i64 e.X, .int .i64 e.Y, .int .i64 e.Time, .slice (some ⟨w.heap.size + 1 + 1 + 1 + d.size + d1.size, 0, none⟩) 1 1] (by decide) rfl ?_ ?_ (by unfold maxLen; omega) (by omega) rfl rfl rfl rfl ?_; exact cells_at0 (heap_new _ _ (by simp only [World.size_ext, World.size_alloc])) rfl; simp [Value.oneCell']; intro g c wa howna hea; obtain ⟨d5, rfl⟩ := hea; replace howna := Lib.hid howna))
      (refine bodyPost_ret (v := ?_) (by simp [results, Try.results77, go_sem]; rfl) rfl ?_)
      replace hst2 := hst2.out
      simp only [beq_iff_eq, beq_eq_false_iff_ne] at hb0
      first | rw [if_pos hb0] at hst2 | rw [if_neg hb0] at hst2
      subst hst2
      refine ⟨some ⟨g, 0, none⟩, c, none, 0, 0, rfl, ?_, .inr ⟨_, 0, 1, ownsRow_base (ownsRow_like (S := fun k => k < w.heap.size + 3) howna.out (by (repeat (first | exact Like.refl _ _ | refine Like.ext ?_ _ | refine Like.alloc ?_ _ | refine Like.swap ?_ (by simp <;> omega) _ _))) (fun b hb hs => ?_)) (Nat.zero_le _), smpIn_one (fr := (0, 0)) (by (repeat (first | (refine heap_new _ _ ?_; focus (first | with_reducible rfl | (simp only [World.size_ext, World.size_alloc]; done))) | refine heap_ext1 ?_ | refine heap_alloc1 ?_)))⟩, OwnG.none _ _⟩
      · (repeat (first | exact Ext.refl _ | assumption | refine Ext.alloc ?_ _ | refine Ext.ext ?_ _ | refine Ext.drew ?_))
      · have := (howna.out.lt b hb).1
        simp only [World.size_ext, World.size_alloc] at this
        omega
end Go.Proofs.Ytendgmnbnnkpnaa.G
