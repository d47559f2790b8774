/- The machine's block, and fail. succeed. -/
import Derived.Test.YtendgmnbnnkpnaaUH
import Derived.WalkKit
import Derived.WalkSpells
import Derived.WalkLawsBesides
import Derived.Deep.QuietTactic
import Derived.BigQuiet
import Derived.BigRegion
import Derived.Lib.Hide
import Derived.Deep.RegionWith
set_option linter.unusedSimpArgs false
set_option linter.unusedVariables false
namespace Go.Proofs.Ytendgmnbnnkpnaa.G
open Go.RowKit

theorem own_ne' {X : World} {base : Nat} {e e' : TypeId} {size n b : Nat} {v : Value} {xs : List Value} {cur : Array Value} {fr : Nat × Nat} (h : X.ownsRow base e size v n xs) (hb : X.heap[b]? = some (.cells cur e' fr)) (hne : e ≠ e') : ∀ k, v.ownBlock = some k → k ≠ b := by
  intro k hk
  rcases h.2 with ⟨rfl, _⟩ | ⟨g, cap, cu, rfl, _⟩
  · cases hk
  · obtain rfl : g = k := by simpa [Value.ownBlock] using hk
    exact own_ne h hb hne
/-- samples that lie in a block of samples -/
def SmpIn (w : World) (g o : Nat) (l : List Smp) : Prop := ∃ cur fr, w.heap[g]? = some (.cells cur 24 fr) ∧ ∀ j u, (cellsS l)[j]? = some u → cur[o + j]? = some u
theorem SmpIn.ext {w w' : World} {g o : Nat} {l : List Smp} (h : SmpIn w g o l) (he : Ext w w') : SmpIn w' g o l := by
  obtain ⟨cur, fr, h1, h2⟩ := h
  exact ⟨cur, fr, heap_some_ext h1 he, h2⟩
theorem SmpIn.like {S : Nat → Prop} {X Y : World} {g o : Nat} {l : List Smp} {e' : TypeId} (h2 : 24 ≠ e') (h : SmpIn X g o l) (hl : Like S X Y) (hS : ∀ b, S b → ∃ cur fr, X.heap[b]? = some (.cells cur e' fr)) : SmpIn Y g o l := by
  obtain ⟨cur, fr, h1, h3⟩ := h
  refine ⟨cur, fr, ?_, h3⟩
  rw [hl.heap g fun hs => ?_]
  · exact h1
  · obtain ⟨c2, f2, h4⟩ := hS g hs
    rw [h1] at h4
    simp only [Option.some.injEq, Obj.cells.injEq] at h4
    exact h2 h4.2.1
theorem SmpIn.cell {w : World} {g o : Nat} {l : List Smp} (h : SmpIn w g o l) (j : Nat) (u : Value) (hu : (cellsS l)[j]? = some u) : w.cell? ⟨g, o + j, none⟩ = some u := by
  obtain ⟨cur, fr, h1, h2⟩ := h
  simp only [World.cell?, h1]
  exact h2 j u hu
theorem SmpIn.ss {w : World} {g o : Nat} {l : List Smp} (h : SmpIn w g o l) : SsAt w g o l := by
  intro i hi
  have h2 := cellsS_get l i hi
  exact ⟨h.cell _ _ h2.1, by have := h.cell _ _ h2.2.1; rwa [← Nat.add_assoc] at this, by have := h.cell _ _ h2.2.2; rwa [← Nat.add_assoc] at this⟩
theorem OwnS.inn {w : World} {B g c : Nat} {l : List Smp} (h : OwnS w B g c l) (hne : l ≠ []) : SmpIn w g 0 l := by
  rcases h.2 with ⟨h2, _⟩ | ⟨g', cap, cur, hv, hb, hg, hn, hm, hs, ht⟩
  · cases h2
  · simp only [Value.slice.injEq, Option.some.injEq, Addr.mk.injEq, and_true, true_and] at hv
    obtain ⟨rfl, rfl⟩ := hv
    exact ⟨cur, (0, 0), hg, fun j u hu => by rw [Nat.zero_add]; exact cur_get ht hu⟩
/-- touches that a call made itself; their samples lie anywhere -/
def OwnR (w : World) (B : Nat) (v : Value) : List Tch → Prop
  | [] => w.ownsRow B 64 5 v 0 []
  | [t] => ∃ g o c, w.ownsRow B 64 5 v 1 (cellsTch t g o c) ∧ SmpIn w g o t.S
  | [t, u] => ∃ g o c h p d, w.ownsRow B 64 5 v 2 (cellsTch t g o c ++ cellsTch u h p d) ∧ SmpIn w g o t.S ∧ SmpIn w h p u.S
  | _ => False
theorem OwnT.weak {w : World} {B : Nat} {v : Value} : ∀ {ts : List Tch}, (∀ t, t ∈ ts → TOk t) → OwnT w B v ts → OwnR w B v ts
  | [], _, h => h
  | [t], ht, ⟨g, c, h1, h2⟩ => ⟨g, 0, c, h1, h2.inn (ht t (by simp)).ne⟩
  | [t, u], ht, ⟨g, c, k, d, _, h1, h2, h3⟩ => ⟨g, 0, c, k, 0, d, h1, h2.inn (ht t (by simp)).ne, h3.inn (ht u (by simp)).ne⟩
  | _ :: _ :: _ :: _, _, h => h.elim
/-- a new world that differs in blocks of another type alone -/
theorem OwnT.like2 {S : Nat → Prop} {X Y : World} {B : Nat} {v : Value} {e' : TypeId} (h1 : 64 ≠ e') (h2 : 24 ≠ e') : ∀ {ts : List Tch}, OwnT X B v ts → Like S X Y → (∀ b, S b → ∃ cur fr, X.heap[b]? = some (.cells cur e' fr)) → OwnT Y B v ts
  | [], h, hl, hS => ownsRow_like h hl (fun b hb hs => by obtain ⟨_, _, hx⟩ := hS b hs; exact own_ne' h hx h1 b hb rfl)
  | [_], ⟨g, c, p1, p2⟩, hl, hS => ⟨g, c, ownsRow_like p1 hl (fun b hb hs => by obtain ⟨_, _, hx⟩ := hS b hs; exact own_ne' p1 hx h1 b hb rfl), ownsRow_like p2 hl (fun b hb hs => by obtain ⟨_, _, hx⟩ := hS b hs; exact own_ne' p2 hx h2 b hb rfl)⟩
  | [_, _], ⟨g, c, k, d, h0, p1, p2, p3⟩, hl, hS => ⟨g, c, k, d, h0, ownsRow_like p1 hl (fun b hb hs => by obtain ⟨_, _, hx⟩ := hS b hs; exact own_ne' p1 hx h1 b hb rfl), ownsRow_like p2 hl (fun b hb hs => by obtain ⟨_, _, hx⟩ := hS b hs; exact own_ne' p2 hx h2 b hb rfl), ownsRow_like p3 hl (fun b hb hs => by obtain ⟨_, _, hx⟩ := hS b hs; exact own_ne' p3 hx h2 b hb rfl)⟩
  | _ :: _ :: _ :: _, h, _, _ => h.elim
theorem OwnT.ext {w w' : World} {B : Nat} {v : Value} : ∀ {ts : List Tch}, OwnT w B v ts → Ext w w' → OwnT w' B v ts
  | [], h, he => ownsRow_ext h he
  | [_], ⟨g, c, h1, h2⟩, he => ⟨g, c, ownsRow_ext h1 he, ownsRow_ext h2 he⟩
  | [_, _], ⟨g, c, h, d, h0, h1, h2, h3⟩, he => ⟨g, c, h, d, h0, ownsRow_ext h1 he, ownsRow_ext h2 he, ownsRow_ext h3 he⟩
  | _ :: _ :: _ :: _, h, _ => h.elim
theorem OwnR.like2 {S : Nat → Prop} {X Y : World} {B : Nat} {v : Value} {e' : TypeId} (h1 : 64 ≠ e') (h2 : 24 ≠ e') : ∀ {ts : List Tch}, OwnR X B v ts → Like S X Y → (∀ b, S b → ∃ cur fr, X.heap[b]? = some (.cells cur e' fr)) → OwnR Y B v ts
  | [], h, hl, hS => ownsRow_like h hl (fun b hb hs => by obtain ⟨_, _, hx⟩ := hS b hs; exact own_ne' h hx h1 b hb rfl)
  | [_], ⟨g, o, c, p1, p2⟩, hl, hS => ⟨g, o, c, ownsRow_like p1 hl (fun b hb hs => by obtain ⟨_, _, hx⟩ := hS b hs; exact own_ne' p1 hx h1 b hb rfl), p2.like h2 hl hS⟩
  | [_, _], ⟨g, o, c, k, p, d, p1, p2, p3⟩, hl, hS => ⟨g, o, c, k, p, d, ownsRow_like p1 hl (fun b hb hs => by obtain ⟨_, _, hx⟩ := hS b hs; exact own_ne' p1 hx h1 b hb rfl), p2.like h2 hl hS, p3.like h2 hl hS⟩
  | _ :: _ :: _ :: _, h, _, _ => h.elim
theorem OwnR.ext {w w' : World} {B : Nat} {v : Value} : ∀ {ts : List Tch}, OwnR w B v ts → Ext w w' → OwnR w' B v ts
  | [], h, he => ownsRow_ext h he
  | [_], ⟨g, o, c, h1, h2⟩, he => ⟨g, o, c, ownsRow_ext h1 he, h2.ext he⟩
  | [_, _], ⟨g, o, c, h, p, d, h1, h2, h3⟩, he => ⟨g, o, c, h, p, d, ownsRow_ext h1 he, h2.ext he, h3.ext he⟩
  | _ :: _ :: _ :: _, h, _ => h.elim
theorem tch_of_row' {w : World} {B g c n o : Nat} {xs : List Value} {t : Tch} {tg to_ tc : Nat} (h : w.ownsRow B 64 5 (.slice (some ⟨g, 0, none⟩) n c) n xs) (ho : o + 5 ≤ n * 5) (hx : ∀ j, j < 5 → xs[o + j]? = (cellsTch t tg to_ tc)[j]?) (hs : SmpIn w tg to_ t.S) : TchAt w g o t tg to_ tc := by
  have hc := fun j (hj : j < 5) => (h.cellAt (o + j) (by omega)).trans (hx j hj)
  exact ⟨hc 0 (by omega), hc 1 (by omega), hc 2 (by omega), hc 3 (by omega), hc 4 (by omega), hs.ss⟩
theorem OwnR.rep {w : World} {B : Nat} {a : Option Addr} {c : Nat} : ∀ {ts : List Tch}, OwnR w B (.slice a ts.length c) ts → RepT w a ts
  | [], _ => .inl rfl
  | [t], ⟨g, go, gc, h1, h2⟩ => by
    obtain ⟨bt, ct, hv⟩ := ownsRow_pos h1 (by decide)
    simp only [List.length_cons, List.length_nil, Value.slice.injEq] at hv
    obtain ⟨rfl, _, rfl⟩ := hv
    refine .inr ⟨bt, 0, rfl, fun i t' hi => ?_⟩
    have : i = 0 := by have := (List.getElem?_eq_some_iff.1 hi).1; simpa using this
    subst this
    obtain rfl : t = t' := by simpa using hi
    exact ⟨g, go, gc, by simpa using tch_of_row' (o := 0) h1 (by simp) (fun j hj => by rw [Nat.zero_add]) h2⟩
  | [t, u], ⟨g, go, gc, k, ko, kc, h1, h2, h3⟩ => by
    obtain ⟨bt, ct, hv⟩ := ownsRow_pos h1 (by decide)
    simp only [List.length_cons, List.length_nil, Value.slice.injEq] at hv
    obtain ⟨rfl, _, rfl⟩ := hv
    refine .inr ⟨bt, 0, rfl, fun i t' hi => ?_⟩
    have : i = 0 ∨ i = 1 := by have := (List.getElem?_eq_some_iff.1 hi).1; simp at this; omega
    rcases this with rfl | rfl
    · obtain rfl : t = t' := by simpa using hi
      exact ⟨g, go, gc, by simpa using tch_of_row' (o := 0) h1 (by simp) (fun j hj => by rw [Nat.zero_add, List.getElem?_append_left (by simpa [cellsTch] using hj)]) h2⟩
    · obtain rfl : u = t' := by simpa using hi
      exact ⟨k, ko, kc, by simpa using tch_of_row' (o := 5) h1 (by simp) (fun j hj => by rw [List.getElem?_append_right (by simp [cellsTch])]; simp [cellsTch]) h3⟩
  | _ :: _ :: _ :: _, h => h.elim
/-- the machine lies at a block M; everything below w0's size is w0's -/
def Mach (w0 w : World) (M : Nat) (r : Rec) (e : Ev) (ask : Int) (gs : List Ges) : Prop :=
  ∃ d1 a c o, M = w0.heap.size + d1.size ∧ Ext ((w0.ext d1).alloc (.cells #[.int .i64 (r).Kind, .int .i64 (r).Node, .int .i64 (r).State, .int .i64 (r).Count, .slice a (r).Ts.length c, .int .i64 (r).L.X, .int .i64 (r).L.Y, .int .i64 (r).L.T, .int .i64 (e).Kind, .int .i64 (e).ID, .int .i64 (e).X, .int .i64 (e).Y, .int .i64 (e).Time, .int .i64 (e).Wheel, .int .i64 ask, o] 82)) w ∧ OwnR w w0.heap.size (.slice a r.Ts.length c) r.Ts ∧ OwnG w w0.heap.size o gs
theorem Mach.heap {w0 : World} {d1 d2 : Grow} (z : Array Value) (t : TypeId) : (((w0.ext d1).alloc (.cells z t)).ext d2).heap[w0.heap.size + d1.size]? = some (.cells z t) := heap_at w0 d1 _ (Ext.ext (Ext.refl _) d2)
/-- the touches, whatever the machine's cells hold -/
theorem Mach.turnT {w0 : World} {d1 d2 : Grow} {z : Array Value} {B : Nat} {v : Value} {ts : List Tch} (h : OwnR (((w0.ext d1).alloc (.cells z 82)).ext d2) B v ts) (z' : Array Value) : OwnR (((w0.ext d1).alloc (.cells z' 82)).ext d2) B v ts :=
  h.like2 (S := fun k => k = w0.heap.size + d1.size) (e' := 82) (by decide) (by decide) (by (repeat (first | exact Like.refl _ _ | refine Like.ext ?_ _ | refine Like.alloc ?_ _ | refine Like.swap ?_ (by simp <;> omega) _ _))) (fun b hb => ⟨z, _, hb ▸ Mach.heap z _⟩)
theorem Mach.turnG {w0 : World} {d1 d2 : Grow} {z : Array Value} {B : Nat} {v : Value} {gs : List Ges} (h : OwnG (((w0.ext d1).alloc (.cells z 82)).ext d2) B v gs) (z' : Array Value) : OwnG (((w0.ext d1).alloc (.cells z' 82)).ext d2) B v gs :=
  ⟨ownsRow_like (S := fun k => k = w0.heap.size + d1.size) h.1 (by (repeat (first | exact Like.refl _ _ | refine Like.ext ?_ _ | refine Like.alloc ?_ _ | refine Like.swap ?_ (by simp <;> omega) _ _))) (fun b hb hs => own_ne' h.1 (Mach.heap z _) (by decide) b hb hs), h.2⟩

/-- the machine where a call begins: the samples are its own too; nothing is asked, no gestures -/
def MachS (w0 w : World) (M : Nat) (r : Rec) (e : Ev) : Prop :=
  ∃ d1 a c, M = w0.heap.size + d1.size ∧ Ext ((w0.ext d1).alloc (.cells #[.int .i64 (r).Kind, .int .i64 (r).Node, .int .i64 (r).State, .int .i64 (r).Count, .slice a (r).Ts.length c, .int .i64 (r).L.X, .int .i64 (r).L.Y, .int .i64 (r).L.T, .int .i64 (e).Kind, .int .i64 (e).ID, .int .i64 (e).X, .int .i64 (e).Y, .int .i64 (e).Time, .int .i64 (e).Wheel, .int .i64 0, .slice none 0 0] 82)) w ∧ OwnT w w0.heap.size (.slice a r.Ts.length c) r.Ts ∧ ∀ p, a = some p → p.block < M
theorem MachS.weak {w0 w : World} {M : Nat} {r : Rec} {e : Ev} (hr : ROk r) (h : MachS w0 w M r e) : Mach w0 w M r e 0 [] := by
  obtain ⟨d1, a, c, h1, h2, h3, _⟩ := h
  exact ⟨d1, a, c, _, h1, h2, h3.weak hr.ts, OwnG.none _ _⟩
theorem MachS.ext {w0 w w' : World} {M : Nat} {r : Rec} {e : Ev} (h : MachS w0 w M r e) (he : Ext w w') : MachS w0 w' M r e := by
  obtain ⟨d1, a, c, h1, h2, h3, h4⟩ := h
  exact ⟨d1, a, c, h1, h2.trans he, h3.ext he, h4⟩

set_option maxHeartbeats 1000000 in
theorem fail_m (w0 w : World) (M : Nat) (r : Rec) (e : Ev) (gs : List Ges) (h : Mach w0 w M r e 0 gs) :
    Calls Try.prog 55 #[.pointer (some ⟨M, 0, none⟩)] w fun x w' => x = .returned (.tuple #[]) ∧ Mach w0 w' M (over r) e (fail r).2.1 gs := by
  obtain ⟨d1, a, c, o, rfl, ⟨d2, rfl⟩, ht, hg⟩ := h
  replace hg := Lib.hid hg
  clear ht
  by_cases h1 : r.State = 1
  · have hw : (fail r).2.1 = 2 := by simp [fail, h1]
    rw [hw]
    clear hw
    have hk : (r.State == 1) = true := by simpa using h1
    clear h1
    go_enter Try.func55, Try.ntmps55
    go_wp2_with (go_at_call 37; refine (over_any _ _ _ _ _ _ _ _ _ _ _).mono ?_; rintro e w' ⟨rfl, d, rfl⟩)
    (first | (refine bodyPost_end (results_none rfl _ _ _) rfl ?_) | (refine bodyPost_ret (results_none rfl _ _ _) rfl ?_))
    refine ⟨rfl, d1, none, 0, o, rfl, ?_, World.ownsRow_nil _ _ _ _, (Mach.turnG hg.out _).ext (by (repeat (first | exact Ext.refl _ | assumption | refine Ext.alloc ?_ _ | refine Ext.ext ?_ _ | refine Ext.drew ?_)))⟩
    (repeat (first | exact Ext.refl _ | assumption | refine Ext.alloc ?_ _ | refine Ext.ext ?_ _ | refine Ext.drew ?_))
  have hk : (r.State == 1) = false := by simpa using h1
  by_cases h2 : r.State = 2
  · have hw : (fail r).2.1 = 2 := by simp [fail, h2]
    rw [hw]
    clear hw
    have hk2 : (r.State == 2) = true := by simpa using h2
    clear h2
    clear h1
    go_enter Try.func55, Try.ntmps55
    go_wp2_with (go_at_call 37; refine (over_any _ _ _ _ _ _ _ _ _ _ _).mono ?_; rintro e w' ⟨rfl, d, rfl⟩)
    (first | (refine bodyPost_end (results_none rfl _ _ _) rfl ?_) | (refine bodyPost_ret (results_none rfl _ _ _) rfl ?_))
    refine ⟨rfl, d1, none, 0, o, rfl, ?_, World.ownsRow_nil _ _ _ _, (Mach.turnG hg.out _).ext (by (repeat (first | exact Ext.refl _ | assumption | refine Ext.alloc ?_ _ | refine Ext.ext ?_ _ | refine Ext.drew ?_)))⟩
    (repeat (first | exact Ext.refl _ | assumption | refine Ext.alloc ?_ _ | refine Ext.ext ?_ _ | refine Ext.drew ?_))
  · have hw : (fail r).2.1 = 0 := by simp [fail, h1, h2]
    rw [hw]
    clear hw
    have hk2 : (r.State == 2) = false := by simpa using h2
    clear h2
    clear h1
    go_enter Try.func55, Try.ntmps55
    go_wp2_with (go_at_call 37; refine (over_any _ _ _ _ _ _ _ _ _ _ _).mono ?_; rintro e w' ⟨rfl, d, rfl⟩)
    (first | (refine bodyPost_end (results_none rfl _ _ _) rfl ?_) | (refine bodyPost_ret (results_none rfl _ _ _) rfl ?_))
    refine ⟨rfl, d1, none, 0, o, rfl, ?_, World.ownsRow_nil _ _ _ _, (Mach.turnG hg.out _).ext (by (repeat (first | exact Ext.refl _ | assumption | refine Ext.alloc ?_ _ | refine Ext.ext ?_ _ | refine Ext.drew ?_)))⟩
    (repeat (first | exact Ext.refl _ | assumption | refine Ext.alloc ?_ _ | refine Ext.ext ?_ _ | refine Ext.drew ?_))
end Go.Proofs.Ytendgmnbnnkpnaa.G
namespace Go
open Go.RowKit
section
variable {P : Program}
/-- append onto nil: a new row -/
theorem wpList_append_nil (w : World) {ops : Array Oper} {rest : List Oper} {o : Oper} {a : Act} {Q : Exit → Act → World → Prop} (s x : Operand) (t : TypeId)
    (e : TypeId) (z : Value) (size bytes : Nat) (hinfo : (P.info? e).map (fun i => (i.zero, i.size, i.bytes)) = some (some z, size, bytes)) (ht : P.underlying t = some (.slice e)) (hzs : z.cells.size = size) (hsz : 0 < size)
    (ad : Addr) (m c : Nat) (news : List Value) (hm : 0 < m) (hl : news.length = m * size) (hnews : ∀ j u, news[j]? = some u → w.cell? (ad.add j) = some u) (h1 : ∀ u ∈ news, u.oneCell' = true)
    (h63 : m ≤ maxLen) (hbytes : m * bytes ≤ 140737488355328)
    (hgd : o.guard = none) (ho : o.op = .call { callee := .builtin .append, args := #[s, x], argTypes := #[t, t] }) (hs : a.eval s = .slice none 0 0) (hx : a.eval x = .slice (some ad) m c)
    (h : ∀ g c' w', w'.ownsRow w.heap.size e size (.slice (some ⟨g, 0, none⟩) m c') m news → Ext w w' → wpList P ops Q rest (a.put o.dst (.slice (some ⟨g, 0, none⟩) m c')) w') : wpList P ops Q (o :: rest) a w := by
  obtain ⟨i, hi, hz, hi1, hi2⟩ := info_parts hinfo
  refine wpList_append_own (w := w) hgd s x t ho w.heap.size e i z size bytes ht hi hz hi1 hi2 hzs hsz _ 0 [] hs (World.ownsRow_nil _ _ _ _) ad m c news hx hl hnews h1
    (by omega) (by simpa using hbytes) (Nat.le_refl _) ?_
  intro v' w' hown hg hnil
  obtain ⟨g, c', rfl⟩ := ownsRow_some hown (fun hv => by have := (hnil.1 hv).2; omega)
  rw [List.nil_append, Nat.zero_add] at hown
  rw [Nat.zero_add]
  exact h g c' w' hown (Ext.of_grown (Ext.refl w) hg (fun k hk => by simp [Value.ownBlock] at hk))
end
end Go
namespace Go.Proofs.Ytendgmnbnnkpnaa.G
open Go.RowKit
theorem infoG : (Try.prog.info? 49).map (fun i => (i.zero, i.size, i.bytes)) = some (some (.agg #[.int .i64 0, .int .i64 0, .int .i64 0, .int .i64 0, .int .i64 0, .int .i64 0, .int .i64 0, .int .i64 0, .int .i64 0, .int .i64 0]), 10, 80) := by kernel_rfl
theorem gesL_one (g : Ges) : ∀ u ∈ gesL g, u.oneCell' = true := by
  intro u hu
  simp only [gesL, List.mem_cons, List.not_mem_nil, or_false] at hu
  rcases hu with rfl | rfl | rfl | rfl | rfl | rfl | rfl | rfl | rfl | rfl <;> rfl
theorem gesL_at {w : World} {b : Nat} {g : Ges} {t : TypeId} (h : w.heap[b]? = some (.cells #[.int .i64 (g).Kind, .int .i64 (g).Node, .int .i64 (g).Phase, .int .i64 (g).X, .int .i64 (g).Y, .int .i64 (g).DX, .int .i64 (g).DY, .int .i64 (g).Scale, .int .i64 (g).VX, .int .i64 (g).VY] t)) : ∀ j u, (gesL g)[j]? = some u → w.cell? ((⟨b, 0, none⟩ : Addr).add j) = some u := by
  intro j u hu
  rw [Addr.add_lit, Nat.zero_add]
  simp only [World.cell?, h]
  have : (#[.int .i64 (g).Kind, .int .i64 (g).Node, .int .i64 (g).Phase, .int .i64 (g).X, .int .i64 (g).Y, .int .i64 (g).DX, .int .i64 (g).DY, .int .i64 (g).Scale, .int .i64 (g).VX, .int .i64 (g).VY] : Array Value) = (gesL g).toArray := rfl
  rw [this, List.getElem?_toArray]; exact hu

set_option maxHeartbeats 1000000 in
theorem succeed_m (w0 w : World) (M : Nat) (r : Rec) (e : Ev) (s : Smp) (ask : Int) (hr : ROk { r with L := s }) (h : Mach w0 w M r e 0 []) :
    Calls Try.prog 56 #[.pointer (some ⟨M, 0, none⟩), .agg #[.int .i64 s.X, .int .i64 s.Y, .int .i64 s.T], .int .i64 ask] w fun x w' => x = .returned (.tuple #[]) ∧ Mach w0 w' M (succeed r s ask).1 e (succeed r s ask).2.1 (succeed r s ask).2.2 := by
  obtain ⟨d1, a, c, o, rfl, ⟨d2, rfl⟩, ht, hg⟩ := h
  obtain rfl := hg.2 rfl
  by_cases h3 : r.State = 3
  · have hw : succeed r s ask = (over { r with L := s }, 0, [onceG { r with L := s }]) := by simp [succeed, h3]
    rw [hw]
    have hk : (r.State == 3) = true := by simpa using h3
    obtain ⟨G, hG⟩ : ∃ G, G = onceG { r with L := s } := ⟨_, rfl⟩
    have ho := once_r _ hr
    rw [← hG] at ho ⊢
    simp only [gesV] at ho
    have hrz : ∀ (w' : World), Ext (((w0.ext d1).alloc (.cells #[.int .i64 (({ r with L := s } : Rec)).Kind, .int .i64 (({ r with L := s } : Rec)).Node, .int .i64 (({ r with L := s } : Rec)).State, .int .i64 (({ r with L := s } : Rec)).Count, .slice a (({ r with L := s } : Rec)).Ts.length c, .int .i64 (({ r with L := s } : Rec)).L.X, .int .i64 (({ r with L := s } : Rec)).L.Y, .int .i64 (({ r with L := s } : Rec)).L.T, .int .i64 (e).Kind, .int .i64 (e).ID, .int .i64 (e).X, .int .i64 (e).Y, .int .i64 (e).Time, .int .i64 (e).Wheel, .int .i64 0, .slice none 0 0] 82)).ext d2) w' → RepT w' a r.Ts := fun w' he => ((Mach.turnT ht _).rep).ext he
    replace hrz := Lib.hid hrz
    replace ho := Lib.hid ho
    replace hg := Lib.hid hg
    clear hw h3 ht hG
    go_enter Try.func56, Try.ntmps56
    go_wp2
    (refine wp_region_calm_ops [1, 2, 3, 4, 5, 6, 7, 8, 9] [10] [0] [11, 12, 13, 14] (by kernel_rfl) (by kernel_rfl) (by simp only [List.filterMap_cons, List.filterMap_nil, List.getElem?_toArray, List.getElem?_cons_succ, List.getElem?_cons_zero]; try exact rfl) (by simp only [List.filterMap_cons, List.filterMap_nil, List.getElem?_toArray, List.getElem?_cons_succ, List.getElem?_cons_zero]; try exact rfl) (by simp only [List.filterMap_cons, List.filterMap_nil, List.getElem?_toArray, List.getElem?_cons_succ, List.getElem?_cons_zero]; try exact rfl) ?_; (repeat (first | (refine ql_plain rfl rfl ?_; intro K hK; go_big_quiet_op; go_big_quiet_on) | (refine ql_nilCheck rfl rfl rfl ?_; intro K hK; simp only [Act.put, List.setIfInBounds_toArray, List.set_cons_succ, List.set_cons_zero]; go_big_quiet_on) | (refine ql_call (fun _ => (ho.out _ _ _ (hrz.out _ (by (repeat (first | exact Ext.refl _ | assumption | refine Ext.alloc ?_ _ | refine Ext.ext ?_ _ | refine Ext.drew ?_)))))) rfl rfl Try.func38 rfl (by kernel_rfl) rfl ?_; intro K hK; simp only [Act.put, List.setIfInBounds_toArray, List.set_cons_succ, List.set_cons_zero]; go_big_quiet_on) | (refine ql_skip rfl ?_; intro K hK; simp only [Act.put, List.setIfInBounds_toArray, List.set_cons_succ, List.set_cons_zero]; go_big_quiet_on))); refine ql_nil ?_)
    refine mw1 (mk_sl (.cells #[.int .i64 (G).Kind, .int .i64 (G).Node, .int .i64 (G).Phase, .int .i64 (G).X, .int .i64 (G).Y, .int .i64 (G).DX, .int .i64 (G).DY, .int .i64 (G).Scale, .int .i64 (G).VX, .int .i64 (G).VY] 49) 1 (by simp only [List.getElem?_toArray, List.getElem?_cons_succ, List.getElem?_cons_zero]; try exact rfl) rfl (fun d => by go_simp)) ?_; intro u1 hu1 K hK; simp only [Act.put, List.setIfInBounds_toArray, List.set_cons_succ, List.set_cons_zero, List.getElem?_toArray, List.getElem?_cons_succ, List.getElem?_cons_zero, Option.bind_some]; refine hK _ ?_; clear hK K; (repeat (first | (refine pl_plain rfl rfl ?_; intro K hK; go_big_quiet_op; go_big_quiet_on) | (refine pl_nilCheck rfl rfl rfl ?_; intro K hK; simp only [Act.put, List.setIfInBounds_toArray, List.set_cons_succ, List.set_cons_zero]; go_big_quiet_on))); refine pl_nil ?_; rintro w1 he1 ⟨_, hf1⟩
    obtain ⟨g1, rfl, hf⟩ := hf1
    obtain ⟨d3, rfl⟩ := he1
    replace hf := Lib.hid hf
    have hat := Lib.hid (gesL_at hf.out)
    have h1 := Lib.hid (gesL_one G)
    refine wpList_append_nil _ _ _ 38 49 _ 10 80 infoG Try.underlying38 rfl (by decide) ⟨g1, 0, none⟩ 1 1 (gesL G) (by decide) rfl hat.out h1.out (by unfold maxLen; omega) (by omega) rfl rfl rfl rfl ?_
    intro g c1 w1 hown he
    obtain ⟨d4, rfl⟩ := he
    replace hown := Lib.hid hown
    go_wp2; refine only_normal ?_
    go_wp2_with (go_at_call 37; refine (over_any _ _ _ _ _ _ _ _ _ _ _).mono ?_; rintro e w' ⟨rfl, d, rfl⟩)
    (first | (refine bodyPost_end (results_none rfl _ _ _) rfl ?_) | (refine bodyPost_ret (results_none rfl _ _ _) rfl ?_))
    refine ⟨rfl, d1, none, 0, .slice (some ⟨g, 0, none⟩) 1 c1, rfl, ?_, World.ownsRow_nil _ _ _ _, ?_, fun h => by cases h⟩
    · (repeat (first | exact Ext.refl _ | assumption | refine Ext.alloc ?_ _ | refine Ext.ext ?_ _ | refine Ext.drew ?_))
    · refine ownsRow_like (S := fun k => k = w0.heap.size + d1.size) (ownsRow_base (B' := w0.heap.size) (ownsRow_ext hown.out (Ext.ext (Ext.refl _) d)) (by simp only [World.size_ext, World.size_alloc]; omega)) (by (repeat (first | exact Like.refl _ _ | refine Like.ext ?_ _ | refine Like.alloc ?_ _ | refine Like.swap ?_ (by simp <;> omega) _ _))) ?_
      intro b hb hs
      obtain rfl : g = b := by simpa [Value.ownBlock] using hb
      have := (own_ge hown.out).1
      simp at this
      omega
  · have hw : succeed r s ask = ({ r with L := s, State := 2 }, ask, []) := by simp [succeed, h3]
    rw [hw]
    have hk : (r.State == 3) = false := by simpa using h3
    replace hg := Lib.hid hg
    replace ht := Lib.hid ht
    clear hw h3 hr
    go_enter Try.func56, Try.ntmps56
    go_wp2
    (first | (refine bodyPost_end (results_none rfl _ _ _) rfl ?_) | (refine bodyPost_ret (results_none rfl _ _ _) rfl ?_))
    refine ⟨rfl, d1, a, c, _, rfl, ?_, (Mach.turnT ht.out _).ext (by (repeat (first | exact Ext.refl _ | assumption | refine Ext.alloc ?_ _ | refine Ext.ext ?_ _ | refine Ext.drew ?_))), (Mach.turnG hg.out _).ext (by (repeat (first | exact Ext.refl _ | assumption | refine Ext.alloc ?_ _ | refine Ext.ext ?_ _ | refine Ext.drew ?_)))⟩
    (repeat (first | exact Ext.refl _ | assumption | refine Ext.alloc ?_ _ | refine Ext.ext ?_ _ | refine Ext.drew ?_))
end Go.Proofs.Ytendgmnbnnkpnaa.G
