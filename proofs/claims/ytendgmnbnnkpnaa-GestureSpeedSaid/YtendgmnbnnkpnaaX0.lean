/- 'w.ext d': the world w with new blocks and draws: the normal form of what a call leaves that turns nothing old. -/
import Derived.WalkKit
import Derived.WalkSpells
import Derived.WalkLawsBesides
import Derived.Deep.QuietTactic
import Derived.BigQuiet
import Derived.BigRegion
import Derived.Lib.Hide
import Derived.Deep.RegionWith
set_option linter.unusedSimpArgs false
set_option linter.unusedVariables false
namespace Go
/-- new blocks, and a number of draws -/
structure Grow where
  objs : Array Obj
  n : Nat
instance : Inhabited Grow := ⟨⟨#[], 0⟩⟩
def Grow.size (d : Grow) : Nat := d.objs.size
def Grow.drew (d : Grow) : Grow := ⟨d.objs, d.n + 1⟩
def Grow.drews (d : Grow) (k : Nat) : Grow := ⟨d.objs, d.n + k⟩
def Grow.add (d e : Grow) : Grow := ⟨d.objs ++ e.objs, e.n⟩
/-- the world with new blocks, the count of draws being whatever -/
def World.ext (w : World) (d : Grow) : World := { w with heap := w.heap ++ d.objs, drawn := d.n }
section
variable (w : World) (d e : Grow)
@[simp, go_sem] theorem World.size_ext : (w.ext d).heap.size = w.heap.size + d.size := by simp [World.ext, Grow.size]
@[simp, go_sem] theorem World.tape_ext : (w.ext d).tape = w.tape := rfl
theorem World.heap_ext (k : Nat) (h : k < w.heap.size) : (w.ext d).heap[k]? = w.heap[k]? := by
  simp [World.ext, Array.getElem?_append, h]
@[go_sem] theorem World.cell?_ext (n i : Nat) (hn : n < w.heap.size) : (w.ext d).cell? ⟨n, i, .none⟩ = w.cell? ⟨n, i, .none⟩ :=
  World.cell?_of_block (w := w) (World.heap_ext w d n hn)
@[go_sem] theorem World.frozen?_ext (n i : Nat) (hn : n < w.heap.size) : (w.ext d).frozen? ⟨n, i, .none⟩ = w.frozen? ⟨n, i, .none⟩ :=
  World.frozen?_of_block (w := w) (World.heap_ext w d n hn)
@[go_sem] theorem World.shape?_ext (n : Nat) (hn : n < w.heap.size) : (w.ext d).shape? n = w.shape? n := by
  simp [World.shape?, World.heap_ext w d n hn]
@[go_sem] theorem World.setCell_ext (n i : Nat) (v : Value) (hn : n < w.heap.size) :
    (w.ext d).setCell ⟨n, i, .none⟩ v = (w.setCell ⟨n, i, .none⟩ v).ext d := by
  unfold World.setCell World.ext
  congr 1
  apply Array.ext_getElem?
  intro k
  simp only [Array.getElem?_modify, Array.getElem?_append, Array.size_modify]
  by_cases hk : n = k
  · subst hk; simp [hn]
  · simp [hk]
@[simp, go_sem] theorem World.ext_drew : (w.ext d).drew = w.ext d.drew := rfl
@[simp, go_sem] theorem World.ext_drewN (k : Nat) : (w.ext d).drewN k = w.ext (d.drews k) := rfl
theorem World.ext_ext : (w.ext d).ext e = w.ext (d.add e) := by
  unfold World.ext Grow.add
  simp [Array.append_assoc]
@[simp, go_sem] theorem Grow.size_drew : d.drew.size = d.size := rfl
@[simp, go_sem] theorem Grow.size_drews (k : Nat) : (d.drews k).size = d.size := rfl
@[simp, go_sem] theorem Grow.size_add : (d.add e).size = d.size + e.size := by simp [Grow.size, Grow.add]
def World.grow1 (w : World) : Grow := ⟨#[], w.drawn + 1⟩
def World.grow0 (w : World) : Grow := ⟨#[], w.drawn⟩
theorem World.drew_is_ext : w.drew = w.ext w.grow1 := by
  simp only [World.ext, World.grow1, Array.append_empty]; rfl
theorem World.ext_none : w.ext w.grow0 = w := by simp [World.ext, World.grow0]
end
/-- w' is w with new blocks and draws -/
def Ext (w w' : World) : Prop := ∃ d, w' = w.ext d
theorem Ext.refl (w : World) : Ext w w := ⟨w.grow0, (World.ext_none w).symm⟩
theorem Ext.trans {a b c : World} : Ext a b → Ext b c → Ext a c := by
  rintro ⟨d, rfl⟩ ⟨e, rfl⟩
  exact ⟨d.add e, World.ext_ext a d e⟩
theorem Ext.ext {a b : World} (h : Ext a b) (d : Grow) : Ext a (b.ext d) := h.trans ⟨d, rfl⟩
theorem Ext.drew {a b : World} (h : Ext a b) : Ext a b.drew := h.trans ⟨b.grow1, World.drew_is_ext b⟩
theorem Ext.alloc {a b : World} (h : Ext a b) (o : Obj) : Ext a (b.alloc o) :=
  h.trans ⟨⟨#[o], b.drawn⟩, by simp only [World.ext, ← Array.push_eq_append]; rfl⟩
theorem Ext.below {w w' : World} (h : Ext w w') : Go.RowKit.Below w.heap.size w w' := by
  obtain ⟨d, rfl⟩ := h
  exact ⟨rfl, rfl, rfl, by simp, fun k hk => World.heap_ext w d k hk⟩
theorem Ext.of_below {w w' : World} (h : Go.RowKit.Below w.heap.size w w') : Ext w w' := by
  refine ⟨⟨w'.heap.extract w.heap.size w'.heap.size, w'.drawn⟩, ?_⟩
  obtain ⟨h1, h2, h3, h4, h5⟩ := h
  cases w' with
  | mk heap tape drawn os output =>
    simp only at h1 h2 h3 h4 h5
    subst h1 h2 h3
    simp only [World.ext, World.mk.injEq, and_true]
    apply Array.ext_getElem?
    intro k
    rw [Array.getElem?_append]
    by_cases hk : k < w.heap.size
    · simp [hk, h5 k hk]
    · simp [hk, Array.getElem?_extract]
      by_cases hk2 : k < heap.size
      · rw [if_pos (by omega)]; congr 1; omega
      · rw [if_neg (by omega)]; simp; omega
theorem Ext.cell {w w' : World} (h : Ext w w') {p : Addr} (hp : p.block < w.heap.size) : w'.cell? p = w.cell? p := h.below.cell hp
theorem Ext.cell_some {w w' : World} (h : Ext w w') {p : Addr} {v : Value} (hc : w.cell? p = some v) : w'.cell? p = some v :=
  (h.cell (World.block_lt_of_cell? w p hc)).trans hc
theorem Ext.size {w w' : World} (h : Ext w w') : w.heap.size ≤ w'.heap.size := h.below.size
/-- the peel: 'a < b + c + ..' where 'a < b' (simp discharges two levels deep only, so each number of summands has a law of its own) -/
@[go_sem] theorem lt_peel1 (a b qc : Nat) (h : a < b) : (a < b + qc) = True := eq_true (by omega)
@[go_sem] theorem lt_peel2 (a b qc qd : Nat) (h : a < b) : (a < b + qc + qd) = True := eq_true (by omega)
@[go_sem] theorem lt_peel3 (a b qc qd qe : Nat) (h : a < b) : (a < b + qc + qd + qe) = True := eq_true (by omega)
@[go_sem] theorem lt_peel4 (a b qc qd qe qf : Nat) (h : a < b) : (a < b + qc + qd + qe + qf) = True := eq_true (by omega)
@[go_sem] theorem lt_peel5 (a b qc qd qe qf qg : Nat) (h : a < b) : (a < b + qc + qd + qe + qf + qg) = True := eq_true (by omega)
@[go_sem] theorem lt_peel6 (a b qc qd qe qf qg qh : Nat) (h : a < b) : (a < b + qc + qd + qe + qf + qg + qh) = True := eq_true (by omega)
@[go_sem] theorem lt_peel7 (a b qc qd qe qf qg qh qi : Nat) (h : a < b) : (a < b + qc + qd + qe + qf + qg + qh + qi) = True := eq_true (by omega)
@[go_sem] theorem lt_peel8 (a b qc qd qe qf qg qh qi qj : Nat) (h : a < b) : (a < b + qc + qd + qe + qf + qg + qh + qi + qj) = True := eq_true (by omega)
@[go_sem] theorem lt_peel9 (a b qc qd qe qf qg qh qi qj qk : Nat) (h : a < b) : (a < b + qc + qd + qe + qf + qg + qh + qi + qj + qk) = True := eq_true (by omega)
@[go_sem] theorem lt_peel10 (a b qc qd qe qf qg qh qi qj qk ql : Nat) (h : a < b) : (a < b + qc + qd + qe + qf + qg + qh + qi + qj + qk + ql) = True := eq_true (by omega)
/-- a contract met inside a region that draws -/
theorem Calls.quiet_ext {P : Program} {f : FuncId} {args : Array Value} {w : World} {d : Grow} {v : Value}
    (h : Calls P f args (w.ext d) fun e w' => e = .returned v ∧ Ext (w.ext d) w') : Calls P f args (w.ext d) fun e w'' => e = .returned v ∧ ∃ m, w'' = w.ext m :=
  h.mono fun _ _ ⟨he, m, hm⟩ => ⟨he, d.add m, by rw [hm, World.ext_ext]⟩
theorem Calls.quiet_same {P : Program} {f : FuncId} {args : Array Value} {w : World} {d : Grow} {v : Value}
    (h : Calls P f args (w.ext d) fun e w' => e = .returned v ∧ w.ext d = w') : Calls P f args (w.ext d) fun e w'' => e = .returned v ∧ ∃ m, w'' = w.ext m :=
  h.mono fun _ _ ⟨he, hm⟩ => ⟨he, d, hm.symm⟩
/-- a region that draws, all of it quiet but for new blocks -/
theorem wp_region_ext {P : Program} {id : Nat} {Q : Exit → Act → World → Prop} {a : Act} {w : World} {l : List Oper} (hm : P.follows .mixedOrders = true) (hB : Region.lexB .any l.toArray = true)
    (h : wpQuiet P l.toArray (fun w' => ∃ d, w' = w.ext d) (fun a' => ∀ w', (∃ d, w' = w.ext d) → Q .normal a' w') l a) : (Code.region id l.toArray true).wp P Q a w :=
  wp_region_quiet (C := fun w' => ∃ d, w' = w.ext d) hm hB ⟨w.grow1, World.drew_is_ext w⟩ (by simpa using h)

/-- the greater one of two, as Go's max picks it -/
def mx (a b : Int) : Int := if a < b then b else a
def mn (a b : Int) : Int := if b < a then b else a
section
variable {P : Program} (w : World)
@[go_sem high] theorem run_max2 (ts : Array TypeId) (t : TypeId) (k k' : IntKind) (x y : Int) :
    (Builtin.max_ ts t #[.int k x, .int k' y]).run P w = .ok (.int k (mx x y)) w := by
  simp [Builtin.max_, Builtin.max2, mx]
@[go_sem high] theorem run_max3 (ts : Array TypeId) (t : TypeId) (k k' k'' : IntKind) (x y z : Int) :
    (Builtin.max_ ts t #[.int k x, .int k' y, .int k'' z]).run P w = .ok (.int k (mx (mx x y) z)) w := by
  simp [Builtin.max_, Builtin.max2, mx]; rfl
@[go_sem high] theorem run_max4 (ts : Array TypeId) (t : TypeId) (k k' k'' k3 : IntKind) (x y z u : Int) :
    (Builtin.max_ ts t #[.int k x, .int k' y, .int k'' z, .int k3 u]).run P w = .ok (.int k (mx (mx (mx x y) z) u)) w := by
  simp [Builtin.max_, Builtin.max2, mx]; rfl
@[go_sem high] theorem run_min2 (ts : Array TypeId) (t : TypeId) (k k' : IntKind) (x y : Int) :
    (Builtin.min_ ts t #[.int k x, .int k' y]).run P w = .ok (.int k (mn x y)) w := by
  simp [Builtin.min_, Builtin.min2, mn]
end
theorem mx_le {a b c : Int} : mx a b ≤ c ↔ a ≤ c ∧ b ≤ c := by unfold mx; split <;> omega
theorem lt_mx {a b c : Int} : c < mx a b ↔ c < a ∨ c < b := by unfold mx; split <;> omega
end Go
