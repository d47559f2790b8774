/- slices.DeleteFunc at 'x == m'; without. -/
import Derived.Test.YtcnmljpabmgieaaAr3
import Derived.Deep.CutRange
import Derived.WalkKit
import Derived.WalkSpells
import Derived.WalkLawsBesides
import Derived.Deep.QuietTactic
import Derived.BigQuiet
import Derived.BigRegion
import Derived.Lib.Hide
import Derived.Deep.RegionWith
set_option linter.unusedSimpArgs false
set_option linter.unusedVariables false
namespace Go
open Go.RowKit
theorem wpList_clear2 {P : Program} {w w' : World} {ops : Array Oper} {rest : List Oper} {o : Oper} {a : Act} {Q : Exit → Act → World → Prop} (s : Operand) (t : TypeId) (v : Value) (hgd : o.guard = none) (ho : o.op = .call { callee := .builtin .clear, args := #[s], argTypes := #[t] }) (hs : a.eval s = v)
    (hr : (Builtin.clear_ #[t] o.type #[v]).run P w = .ok (.tuple #[]) w') (h : wpList P ops Q rest (a.put o.dst (.tuple #[])) w') : wpList P ops Q (o :: rest) a w := by
  refine wpList_plain hgd fun K hK => ?_
  unfold Oper.wp execOp
  simp only [ho, resolve, invoke, builtin, Sem.run_bind, Sem.run_pure, Result.andThen_ok, List.map_toArray, List.map_cons, List.map_nil, hs, hr]
  exact hK _ _ h
end Go
namespace Go.Proofs.Ytcnmljpabmgieaa.R
open Go.RowKit
theorem zeroI (w : World) : (zeroValue 3).run Try.prog w = .ok (.int .i64 0) w := by
  obtain ⟨i, hi, hz, _⟩ := info_parts infoI
  simp [zeroValue, typeInfo, hi, hz]
theorem Mid.clear {wr : World} {g c n i : Nat} {l : List Int} {m : Int} (h : Mid wr g c l m n) (hn : n = l.length) (hi : i = (without l m).length) (hin : i < n) (hc : n ≤ c) (hcm : c ≤ maxLen) (B : Nat) (hB : B ≤ g) (ty : TypeId) (k : Nat) :
    ∃ w', (Builtin.clear_ #[22] ty #[.slice (some ⟨g, i, none⟩) (n - i) k]).run Try.prog wr = .ok (.tuple #[]) w' ∧ wr.grownBy w' (some g) ∧ w'.ownsRow B 3 1 (.slice (some ⟨g, 0, none⟩) i c) i ((without l m).map (Value.int .i64)) := by
  obtain ⟨cur, h1, h2, h3, h4⟩ := h.h
  rw [hn, List.take_length, ← hi] at h3
  obtain ⟨f1, cur', f2, f3, f4⟩ := setCells_facts g 3 (0, 0) (List.replicate (n - i) (.int .i64 0)) wr i cur h1
  refine ⟨_, Lib.run_clear_slice wr 22 3 ty (.int .i64 0) Try.underlying22 zeroI rfl rfl g i (n - i) k (by omega) ?_ ?_, f1, by simp [hi], .inr ⟨g, c, cur', rfl, hB, f2, by omega, hcm, by rw [f3, h2]; simp, ?_⟩⟩
  · intro j hj
    rw [heap_cell h1]
    have : i + j < cur.size := by omega
    simp [this]
  · intro j hj
    exact heap_thaw h1 _
  · rw [← h3, Nat.mul_one]
    apply List.ext_getElem?
    intro t
    rw [List.getElem?_take, List.getElem?_take]
    by_cases ht : t < i
    · rw [if_pos ht, if_pos ht, Array.getElem?_toList, Array.getElem?_toList, f4 t ht]
    · rw [if_neg ht, if_neg ht]
set_option maxRecDepth 100000 in
set_option maxHeartbeats 4000000 in
theorem DeleteFunc_ok (l : List Int) (m : Int) (Bx B0 : Nat) (a : Option Addr) (c : Nat) (w : World) (hl : l.length ≤ 1000000) (h : w.ownsRow B0 3 1 (.slice a l.length c) l.length (l.map (Value.int .i64))) (hb : w.cell? ⟨Bx, 0, none⟩ = some (.int .i64 m)) (hne : Bx < B0) :
    Calls Try.prog 48 #[.slice a l.length c, .func (.func 49) #[] #[.pointer (some ⟨Bx, 0, none⟩)]] w fun e w' => ∃ a' c', e = .returned (.slice a' (without l m).length c') ∧ (∃ row, w.grownBy w' row ∧ ∀ k, row = some k → B0 ≤ k) ∧ w'.ownsRow B0 3 1 (.slice a' (without l m).length c') (without l m).length ((without l m).map (Value.int .i64)) := by
  have hi := Lib.hid (IndexFunc_ok l m Bx a c w hl (row_ints h) hb)
  obtain ⟨n, hn⟩ : ∃ n, n = l.length := ⟨_, rfl⟩
  rw [← hn] at hl h hi ⊢
  replace hn := Lib.hid hn
  have h2 := Lib.hid h
  clear h
  go_enter Try.func48, Try.ntmps48
  go_wp2_with fail
  refine Calls.mono hi.out ?_
  rintro _ wq ⟨k, rfl, hwq, hk⟩
  rw [hwq]
  clear hi hwq wq
  rcases hk with ⟨rfl, hw⟩ | ⟨j, rfl, hj, hw⟩
  · replace hw := Lib.hid hw
    clear hb
    go_wp2
    go_ret
    exact ⟨a, c, by rw [hw.out, ← hn.out]; rfl, ⟨none, grown_refl _ _, fun k h => by cases h⟩, by rw [hw.out, ← hn.out]; exact h2.out⟩
  · obtain ⟨g, hg0, hgB, hcm⟩ : ∃ g, a = some ⟨g, 0, none⟩ ∧ B0 ≤ g ∧ c ≤ maxLen := by
      rcases h2.out.2 with ⟨_, h0⟩ | ⟨g, cap, cur, hv, hB, _, _, hm, _⟩
      · omega
      · simp only [Value.slice.injEq] at hv
        obtain ⟨rfl, _, rfl⟩ := hv
        exact ⟨g, rfl, hB, hm⟩
    subst hg0
    obtain ⟨mid, hnc⟩ := Mid.start h2.out hw hn.out hj
    have hij : Hid (j = (without (l.take (j + 1)) m).length) := Lib.hid (by rw [hw]; simp; have := hn.out; omega)
    replace mid := Lib.hid mid
    replace hcm := Lib.hid hcm
    clear hw
    go_wp2
    go_loopg [5, 6] (n - (j + 1)) (fun q v5 v6 wr => ∃ (i t : Nat), v5 = .int .i64 i ∧ v6 = .int .i64 t ∧ i < t ∧ t ≤ n ∧ q = n - t ∧ Hid (i = (without (l.take t) m).length) ∧ Hid (Mid wr g c l m t) ∧ Hid (World.grownBy w wr (some g)))
    case atStart => exact ⟨j, j + 1, rfl, by go_num, by omega, by omega, rfl, hij, mid, Lib.hid (grown_refl _ _)⟩
    case round =>
      clear mid hij
      obtain ⟨i, t, rfl, rfl, hit, htn, hq, hi, mid, hg⟩ := hrel
      replace hq := Lib.hid hq
      have bx : wr.cell? ⟨Bx, 0, none⟩ = some (.int .i64 m) := hg.out.cell hb (fun e => by simp at e; omega)
      obtain ⟨cur, k1, k2, _, _⟩ := mid.out.h
      have hgl : g < wr.heap.size := (Array.getElem?_eq_some_iff.1 k1).1
      obtain ⟨y, hy⟩ : ∃ y, wr.cell? ⟨g, i, none⟩ = some y := ⟨cur[i]'(by omega), by rw [heap_cell k1]; exact Array.getElem?_eq_getElem _⟩
      have hf : ∀ q, wr.frozen? ⟨g, q, none⟩ = false := heap_thaw k1
      clear k1 k2
      by_cases hlt : t < n
      · obtain ⟨x, hx⟩ : ∃ x, l[t]? = some x := ⟨_, List.getElem?_eq_getElem (hn.out ▸ hlt)⟩
        have c0 := mid.out.cell hx
        have hsn := Lib.hid (without_snoc l m t x hx)
        replace hx := Lib.hid hx
        rcases he : (x == m) with _ | _
        · have hmid := Lib.hid (mid.out.keep hx.out he (by have := hn.out; omega))
          rw [← hi.out] at hmid
          have hgr := Lib.hid (grown_trans hg.out (grown_put wr g i (.int .i64 x)))
          go_wp2
          go_roundg (n - (t + 1))
          case measure => have := hq.out; omega
          case rel => exact ⟨i + 1, t + 1, by go_num, by go_num, by omega, by omega, rfl, Lib.hid (by rw [hsn.out, he, List.length_append, ← hi.out]; rfl), hmid, hgr⟩
        · have hmid := Lib.hid (mid.out.skip hx.out he)
          go_wp2
          go_roundg (n - (t + 1))
          case measure => have := hq.out; omega
          case rel => exact ⟨i, t + 1, rfl, by go_num, by omega, by omega, rfl, Lib.hid (by rw [hsn.out, he, List.length_append, ← hi.out]; rfl), hmid, hg⟩
      · obtain rfl : t = n := by omega
        have hi2 : Hid (i = (without l m).length) := Lib.hid (by have := hi.out; rwa [hn.out, List.take_length] at this)
        have hci : ¬ c = i := by omega
        have hclr := Lib.hid fun ty k => mid.out.clear hn.out hi2.out hit hnc hcm.out B0 hgB ty k
        clear hi
        obtain ⟨w9, e9, g9, o9⟩ := hclr.out 0 (c - i)
        replace g9 := Lib.hid (grown_trans hg.out g9)
        replace o9 := Lib.hid o9
        clear hclr bx hy hf hq mid hg
        go_wp2
        go_ret
        exact ⟨some ⟨g, 0, none⟩, c, by rw [← hi2.out]; rfl, ⟨some g, g9.out, fun k e => by cases e; exact hgB⟩, by rw [← hi2.out]; exact o9.out⟩
theorem without_len (l : List Int) (m : Int) : (without l m).length ≤ l.length := by
  unfold without; exact List.length_filter_le _ _
set_option maxHeartbeats 1000000 in
theorem without_ok (l : List Int) (m : Int) (a : Option Addr) (cap : Nat) (w : World) (hl : l.length ≤ 1000000) (h : RepI w a l) :
    Calls Try.prog 39 #[.slice a l.length cap, .int .i64 m] w fun e w' => ∃ a' c', e = .returned (.slice a' (without l m).length c') ∧ Ext w w' ∧ w'.ownsRow w.heap.size 3 1 (.slice a' (without l m).length c') (without l m).length ((without l m).map (Value.int .i64)) := by
  replace h := Lib.hid h
  go_enter Try.func39, Try.ntmps39
  go_wp2_with fail
  refine Calls.mono (clone_ok l a cap _ hl (h.out.ext (by (repeat (first | exact Ext.refl _ | assumption | refine Ext.alloc ?_ _ | refine Ext.ext ?_ _ | refine Ext.drew ?_))))) ?_
  rintro _ w2 ⟨a2, c2, rfl, he, ho⟩
  have hb := he.cell_some (show (w.alloc (.cells #[.int .i64 m] 3)).cell? ⟨w.heap.size, 0, none⟩ = some (.int .i64 m) from heap_cell (heap_new w _ rfl) 0)
  have hd := Lib.hid (DeleteFunc_ok l m w.heap.size (w.heap.size + 1) a2 c2 w2 hl (by simpa using ho) hb (by omega))
  replace he := Lib.hid he
  clear ho hb h
  go_wp2_with fail
  refine Calls.mono hd.out ?_
  rintro _ w3 ⟨a3, c3, rfl, ⟨row, hg, hr⟩, ho⟩
  replace ho := Lib.hid ho
  have he3 := Lib.hid (Ext.of_grown (he.out.trans (Ext.refl _)) hg (fun k hk => by have := hr k hk; simpa using this))
  clear hd hg hr he
  go_wp2
  go_ret
  exact ⟨a3, c3, rfl, Ext.trans (by (repeat (first | exact Ext.refl _ | assumption | refine Ext.alloc ?_ _ | refine Ext.ext ?_ _ | refine Ext.drew ?_))) he3.out, own_low ho.out (by omega)⟩
end Go.Proofs.Ytcnmljpabmgieaa.R
