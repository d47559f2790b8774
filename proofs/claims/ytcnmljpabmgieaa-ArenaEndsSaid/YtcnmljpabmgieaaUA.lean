/- 'w.ext d': the world w with new blocks and draws: the normal form of what a call leaves that turns nothing old. A region that draws its order: reads, quiet calls and makers of new blocks in whatever order, then a tail in a forced order: ONE walk serves every order. Calm regions: the theorem. Calm regions: the region's rule, and the walk's steps. append: what a function's own slices and copies want. Calm regions, scripts: quiet operations, makers that hang on makers, one writer, in whatever order; then late pure ones and the forced tail. Segments, more: any operation that makes something new; append onto nil as a maker. -/
import Derived.Orders
import Derived.WalkKit
import Derived.WalkSpells
import Derived.WalkLawsBesides
import Derived.Deep.QuietTactic
import Derived.BigQuiet
import Derived.BigRegion
import Derived.Lib.Hide
import Derived.Deep.RegionWith
set_option linter.unusedSimpArgs false
set_option linter.unusedVariables false
namespace Go
/-- new blocks, and a number of draws -/
structure Grow where
  objs : Array Obj
  n : Nat
instance : Inhabited Grow := ⟨⟨#[], 0⟩⟩
def Grow.size (d : Grow) : Nat := d.objs.size
def Grow.drew (d : Grow) : Grow := ⟨d.objs, d.n + 1⟩
def Grow.drews (d : Grow) (k : Nat) : Grow := ⟨d.objs, d.n + k⟩
def Grow.add (d e : Grow) : Grow := ⟨d.objs ++ e.objs, e.n⟩
/-- the world with new blocks, the count of draws being whatever -/
def World.ext (w : World) (d : Grow) : World := { w with heap := w.heap ++ d.objs, drawn := d.n }
section
variable (w : World) (d e : Grow)
@[simp, go_sem] theorem World.size_ext : (w.ext d).heap.size = w.heap.size + d.size := by simp [World.ext, Grow.size]
@[simp, go_sem] theorem World.tape_ext : (w.ext d).tape = w.tape := rfl
theorem World.heap_ext (k : Nat) (h : k < w.heap.size) : (w.ext d).heap[k]? = w.heap[k]? := by
  simp [World.ext, Array.getElem?_append, h]
@[go_sem] theorem World.cell?_ext (n i : Nat) (hn : n < w.heap.size) : (w.ext d).cell? ⟨n, i, .none⟩ = w.cell? ⟨n, i, .none⟩ :=
  World.cell?_of_block (w := w) (World.heap_ext w d n hn)
@[go_sem] theorem World.frozen?_ext (n i : Nat) (hn : n < w.heap.size) : (w.ext d).frozen? ⟨n, i, .none⟩ = w.frozen? ⟨n, i, .none⟩ :=
  World.frozen?_of_block (w := w) (World.heap_ext w d n hn)
@[go_sem] theorem World.shape?_ext (n : Nat) (hn : n < w.heap.size) : (w.ext d).shape? n = w.shape? n := by
  simp [World.shape?, World.heap_ext w d n hn]
@[go_sem] theorem World.setCell_ext (n i : Nat) (v : Value) (hn : n < w.heap.size) :
    (w.ext d).setCell ⟨n, i, .none⟩ v = (w.setCell ⟨n, i, .none⟩ v).ext d := by
  unfold World.setCell World.ext
  congr 1
  apply Array.ext_getElem?
  intro k
  simp only [Array.getElem?_modify, Array.getElem?_append, Array.size_modify]
  by_cases hk : n = k
  · subst hk; simp [hn]
  · simp [hk]
@[simp, go_sem] theorem World.ext_drew : (w.ext d).drew = w.ext d.drew := rfl
@[simp, go_sem] theorem World.ext_drewN (k : Nat) : (w.ext d).drewN k = w.ext (d.drews k) := rfl
theorem World.ext_ext : (w.ext d).ext e = w.ext (d.add e) := by
  unfold World.ext Grow.add
  simp [Array.append_assoc]
@[simp, go_sem] theorem Grow.size_drew : d.drew.size = d.size := rfl
@[simp, go_sem] theorem Grow.size_drews (k : Nat) : (d.drews k).size = d.size := rfl
@[simp, go_sem] theorem Grow.size_add : (d.add e).size = d.size + e.size := by simp [Grow.size, Grow.add]
def World.grow1 (w : World) : Grow := ⟨#[], w.drawn + 1⟩
def World.grow0 (w : World) : Grow := ⟨#[], w.drawn⟩
theorem World.drew_is_ext : w.drew = w.ext w.grow1 := by
  simp only [World.ext, World.grow1, Array.append_empty]; rfl
theorem World.ext_none : w.ext w.grow0 = w := by simp [World.ext, World.grow0]
end
/-- w' is w with new blocks and draws -/
def Ext (w w' : World) : Prop := ∃ d, w' = w.ext d
theorem Ext.refl (w : World) : Ext w w := ⟨w.grow0, (World.ext_none w).symm⟩
theorem Ext.trans {a b c : World} : Ext a b → Ext b c → Ext a c := by
  rintro ⟨d, rfl⟩ ⟨e, rfl⟩
  exact ⟨d.add e, World.ext_ext a d e⟩
theorem Ext.ext {a b : World} (h : Ext a b) (d : Grow) : Ext a (b.ext d) := h.trans ⟨d, rfl⟩
theorem Ext.drew {a b : World} (h : Ext a b) : Ext a b.drew := h.trans ⟨b.grow1, World.drew_is_ext b⟩
theorem Ext.alloc {a b : World} (h : Ext a b) (o : Obj) : Ext a (b.alloc o) :=
  h.trans ⟨⟨#[o], b.drawn⟩, by simp only [World.ext, ← Array.push_eq_append]; rfl⟩
theorem Ext.below {w w' : World} (h : Ext w w') : Go.RowKit.Below w.heap.size w w' := by
  obtain ⟨d, rfl⟩ := h
  exact ⟨rfl, rfl, rfl, by simp, fun k hk => World.heap_ext w d k hk⟩
theorem Ext.of_below {w w' : World} (h : Go.RowKit.Below w.heap.size w w') : Ext w w' := by
  refine ⟨⟨w'.heap.extract w.heap.size w'.heap.size, w'.drawn⟩, ?_⟩
  obtain ⟨h1, h2, h3, h4, h5⟩ := h
  cases w' with
  | mk heap tape drawn os output =>
    simp only at h1 h2 h3 h4 h5
    subst h1 h2 h3
    simp only [World.ext, World.mk.injEq, and_true]
    apply Array.ext_getElem?
    intro k
    rw [Array.getElem?_append]
    by_cases hk : k < w.heap.size
    · simp [hk, h5 k hk]
    · simp [hk, Array.getElem?_extract]
      by_cases hk2 : k < heap.size
      · rw [if_pos (by omega)]; congr 1; omega
      · rw [if_neg (by omega)]; simp; omega
theorem Ext.cell {w w' : World} (h : Ext w w') {p : Addr} (hp : p.block < w.heap.size) : w'.cell? p = w.cell? p := h.below.cell hp
theorem Ext.cell_some {w w' : World} (h : Ext w w') {p : Addr} {v : Value} (hc : w.cell? p = some v) : w'.cell? p = some v :=
  (h.cell (World.block_lt_of_cell? w p hc)).trans hc
theorem Ext.size {w w' : World} (h : Ext w w') : w.heap.size ≤ w'.heap.size := h.below.size
/-- the peel: 'a < b + c + ..' where 'a < b' (simp discharges two levels deep only, so each number of summands has a law of its own) -/
@[go_sem] theorem lt_peel1 (a b qc : Nat) (h : a < b) : (a < b + qc) = True := eq_true (by omega)
@[go_sem] theorem lt_peel2 (a b qc qd : Nat) (h : a < b) : (a < b + qc + qd) = True := eq_true (by omega)
@[go_sem] theorem lt_peel3 (a b qc qd qe : Nat) (h : a < b) : (a < b + qc + qd + qe) = True := eq_true (by omega)
@[go_sem] theorem lt_peel4 (a b qc qd qe qf : Nat) (h : a < b) : (a < b + qc + qd + qe + qf) = True := eq_true (by omega)
@[go_sem] theorem lt_peel5 (a b qc qd qe qf qg : Nat) (h : a < b) : (a < b + qc + qd + qe + qf + qg) = True := eq_true (by omega)
@[go_sem] theorem lt_peel6 (a b qc qd qe qf qg qh : Nat) (h : a < b) : (a < b + qc + qd + qe + qf + qg + qh) = True := eq_true (by omega)
@[go_sem] theorem lt_peel7 (a b qc qd qe qf qg qh qi : Nat) (h : a < b) : (a < b + qc + qd + qe + qf + qg + qh + qi) = True := eq_true (by omega)
@[go_sem] theorem lt_peel8 (a b qc qd qe qf qg qh qi qj : Nat) (h : a < b) : (a < b + qc + qd + qe + qf + qg + qh + qi + qj) = True := eq_true (by omega)
@[go_sem] theorem lt_peel9 (a b qc qd qe qf qg qh qi qj qk : Nat) (h : a < b) : (a < b + qc + qd + qe + qf + qg + qh + qi + qj + qk) = True := eq_true (by omega)
@[go_sem] theorem lt_peel10 (a b qc qd qe qf qg qh qi qj qk ql : Nat) (h : a < b) : (a < b + qc + qd + qe + qf + qg + qh + qi + qj + qk + ql) = True := eq_true (by omega)
/-- a contract met inside a region that draws -/
theorem Calls.quiet_ext {P : Program} {f : FuncId} {args : Array Value} {w : World} {d : Grow} {v : Value}
    (h : Calls P f args (w.ext d) fun e w' => e = .returned v ∧ Ext (w.ext d) w') : Calls P f args (w.ext d) fun e w'' => e = .returned v ∧ ∃ m, w'' = w.ext m :=
  h.mono fun _ _ ⟨he, m, hm⟩ => ⟨he, d.add m, by rw [hm, World.ext_ext]⟩
theorem Calls.quiet_same {P : Program} {f : FuncId} {args : Array Value} {w : World} {d : Grow} {v : Value}
    (h : Calls P f args (w.ext d) fun e w' => e = .returned v ∧ w.ext d = w') : Calls P f args (w.ext d) fun e w'' => e = .returned v ∧ ∃ m, w'' = w.ext m :=
  h.mono fun _ _ ⟨he, hm⟩ => ⟨he, d, hm.symm⟩
/-- a region that draws, all of it quiet but for new blocks -/
theorem wp_region_ext {P : Program} {id : Nat} {Q : Exit → Act → World → Prop} {a : Act} {w : World} {l : List Oper} (hm : P.follows .mixedOrders = true) (hB : Region.lexB .any l.toArray = true)
    (h : wpQuiet P l.toArray (fun w' => ∃ d, w' = w.ext d) (fun a' => ∀ w', (∃ d, w' = w.ext d) → Q .normal a' w') l a) : (Code.region id l.toArray true).wp P Q a w :=
  wp_region_quiet (C := fun w' => ∃ d, w' = w.ext d) hm hB ⟨w.grow1, World.drew_is_ext w⟩ (by simpa using h)

/-- the greater one of two, as Go's max picks it -/
def mx (a b : Int) : Int := if a < b then b else a
def mn (a b : Int) : Int := if b < a then b else a
section
variable {P : Program} (w : World)
@[go_sem high] theorem run_max2 (ts : Array TypeId) (t : TypeId) (k k' : IntKind) (x y : Int) :
    (Builtin.max_ ts t #[.int k x, .int k' y]).run P w = .ok (.int k (mx x y)) w := by
  simp [Builtin.max_, Builtin.max2, mx]
@[go_sem high] theorem run_max3 (ts : Array TypeId) (t : TypeId) (k k' k'' : IntKind) (x y z : Int) :
    (Builtin.max_ ts t #[.int k x, .int k' y, .int k'' z]).run P w = .ok (.int k (mx (mx x y) z)) w := by
  simp [Builtin.max_, Builtin.max2, mx]; rfl
@[go_sem high] theorem run_max4 (ts : Array TypeId) (t : TypeId) (k k' k'' k3 : IntKind) (x y z u : Int) :
    (Builtin.max_ ts t #[.int k x, .int k' y, .int k'' z, .int k3 u]).run P w = .ok (.int k (mx (mx (mx x y) z) u)) w := by
  simp [Builtin.max_, Builtin.max2, mx]; rfl
@[go_sem high] theorem run_min2 (ts : Array TypeId) (t : TypeId) (k k' : IntKind) (x y : Int) :
    (Builtin.min_ ts t #[.int k x, .int k' y]).run P w = .ok (.int k (mn x y)) w := by
  simp [Builtin.min_, Builtin.min2, mn]
end
theorem mx_le {a b c : Int} : mx a b ≤ c ↔ a ≤ c ∧ b ≤ c := by unfold mx; split <;> omega
theorem lt_mx {a b c : Int} : c < mx a b ↔ c < a ∨ c < b := by unfold mx; split <;> omega
end Go
namespace Go
/-- the block that a new value leads to -/
def Value.blk : Value → Option Nat
  | .pointer (some a) => some a.block
  | .slice (some a) _ _ => some a.block
  | _ => none
/-- operations that hand back a value and never enter a function -/
def Op.plainly : Op → Bool
  | .move _ | .assign _ | .pick .. | .alloc _ | .box .. | .build .. | .buildSlice .. | .load .. | .binOp .. | .unOp .. | .convert .. | .slice .. | .fieldAddr .. | .field .. | .indexAddr .. | .index .. | .extract .. | .makeInterface .. | .makeSlice .. => true
  | _ => false
theorem run_value_only {P : Program} {w w' : World} {α : Type} (f : α → Value) (s : Sem α) {n : Next} (h : (Sem.bind s fun x => Sem.pure (Next.value (f x))).run P w = .ok n w') : ∃ u, n = .value u := by
  have key : ∀ (s : Sem α) (w : World), (Sem.bind s fun x => Sem.pure (Next.value (f x))).run P w = .ok n w' → ∃ u, n = .value u := by
    intro s
    induction s with
    | pure a => intro w h; simp only [Sem.bind, Sem.run, Result.ok.injEq] at h; exact ⟨f a, h.1.symm⟩
    | load m a k ih => intro w h; simp only [Sem.bind, Sem.run] at h; split at h <;> first | exact ih _ _ h | (split at h <;> first | exact ih _ _ h | cases h)
    | store m a v k ih =>
      intro w h
      cases v <;> simp only [Sem.bind, Sem.run] at h <;> first | (cases h; done) | (split at h <;> first | exact ih _ h | (split at h <;> first | exact ih _ h | cases h))
    | new o k ih => intro w h; simp only [Sem.bind, Sem.run] at h; exact ih _ _ h
    | shape r k ih => intro w h; simp only [Sem.bind, Sem.run] at h; exact ih _ _ h
    | freeze a n k ih => intro w h; simp only [Sem.bind, Sem.run] at h; exact ih _ h
    | frozen a k ih => intro w h; simp only [Sem.bind, Sem.run] at h; exact ih _ _ h
    | getObj r k ih => intro w h; simp only [Sem.bind, Sem.run] at h; split at h <;> first | exact ih _ _ h | cases h
    | setObj r o k ih => intro w h; simp only [Sem.bind, Sem.run] at h; split at h <;> first | exact ih _ h | cases h
    | choose q k ih => intro w h; simp only [Sem.bind, Sem.run] at h; split at h <;> exact ih _ _ h
    | sys c k ih => intro w h; simp only [Sem.bind, Sem.run] at h; exact ih _ _ h
    | program k ih => intro w h; simp only [Sem.bind, Sem.run] at h; exact ih _ _ h
    | mark m k ih => intro w h; simp only [Sem.bind, Sem.run] at h; exact ih _ h
    | halt x => intro w h; simp only [Sem.bind, Sem.run] at h; cases h
  exact key s w h
theorem plainly_value {P : Program} {ρ : Operand → Value} {o : Oper} {w w' : World} {n : Next} (hp : o.op.plainly = true) (h : (execOp ρ o).run P w = .ok n w') : ∃ u, n = .value u := by
  unfold execOp at h
  cases hop : o.op <;> simp only [hop, Op.plainly] at hp h <;> first
    | (cases hp; done)
    | exact run_value_only id _ h
    | exact run_value_only _ _ h
    | (simp only [pure, Sem.run, Result.ok.injEq] at h; exact ⟨_, h.1.symm⟩)

section
variable {P : Program} {ops : Array Oper} {C : World → Prop} {n0 : Nat} {Mv : World → World → Prop} {D : World → Prop} {Q : Exit → Act → World → Prop}
abbrev Facts := World → Prop
abbrev Blks := Nat → Prop
/-- what a fact must be: it survives new blocks and draws -/
def Stable (Φ : Value → Facts) : Prop := ∀ u w w', Φ u w → Ext w w' → Φ u w'
/-- .. and the writer's move -/
def StableM (n0 : Nat) (Mv : World → World → Prop) (Φ : Value → Facts) : Prop := ∀ u w w', Φ u w → (∀ b, u.blk = some b → n0 ≤ b) → Mv w w' → Φ u w'
/-- a maker: some value, new blocks -/
def Oper.makesUpon (P : Program) (w : World) (Φ : Value → Facts) : Result Next → Prop
  | .ok (.value u) w' => Ext w w' ∧ Φ u w' ∧ ∀ b, u.blk = some b → w.heap.size ≤ b ∧ b < w'.heap.size
  | .ok (.enter f args) w' => w' = w ∧ Calls P f args w (fun e w'' => ∃ u, e = .returned u ∧ Ext w w'' ∧ Φ u w'' ∧ ∀ b, u.blk = some b → w.heap.size ≤ b ∧ b < w''.heap.size)
  | _ => False
def Oper.makes (P : Program) (o : Oper) (a : Act) (C : World → Prop) (Φ : Value → Facts) : Prop := ∀ w, C w → Oper.makesUpon P w Φ ((execOp a.eval o).run P w)
/-- it yields this very value in every such world, and leaves new blocks at most -/
def Oper.givesUpon (P : Program) (w : World) (v : Value) : Result Next → Prop
  | .ok (.value u) w' => w' = w ∧ u = v
  | .ok (.enter f args) w' => w' = w ∧ Calls P f args w (fun e w'' => e = .returned v ∧ Ext w w'')
  | _ => False
def Oper.gives (P : Program) (o : Oper) (a : Act) (C : World → Prop) (v : Value) : Prop := ∀ w, C w → Oper.givesUpon P w v ((execOp a.eval o).run P w)
def Gv (P : Program) (ops : Array Oper) (C : World → Prop) (o : Oper) (a : Act) (v : Value) : Prop :=
  (Region.wanted o (yielded ops a.tmps) = false ∧ v = undef) ∨ (Region.wanted o (yielded ops a.tmps) = true ∧ o.gives P a C v)
theorem Gv.put {o x : Oper} {a : Act} {v u : Value} (hs : ∀ cs b, o.op ≠ .select cs b) (h : ∀ d, x.dst = some d → d ∉ o.looksAt ops) : Gv P ops C o (a.put x.dst u) v ↔ Gv P ops C o a v := by
  unfold Gv Oper.gives; rw [execOp_put (ops := ops) o hs a x.dst u h, wanted_put o a x.dst u h]
/-- the quiet operations, in a row -/
def QW (P : Program) (ops : Array Oper) (C : World → Prop) (R : Act → Prop) : List Nat → Act → Prop
  | [], a => R a
  | i :: l, a => ∃ o, ops[i]? = some o ∧ ∃ v, Gv P ops C o a v ∧ QW P ops C R l (a.put o.dst v)
def Mk (P : Program) (ops : Array Oper) (C : World → Prop) (n0 : Nat) (Mv : World → World → Prop) (a : Act) (p : Nat × (Value → Facts)) : Prop :=
  ∃ o, ops[p.1]? = some o ∧ Region.wanted o (yielded ops a.tmps) = true ∧ Stable p.2 ∧ StableM n0 Mv p.2 ∧ o.makes P a C p.2
/-- behind the makers, whatever they made -/
def MU (ops : Array Oper) (n0 : Nat) (T : Act → Facts → Prop) : List (Nat × (Value → Facts)) → Act → Facts → Blks → Prop
  | [], a, F, _ => T a F
  | p :: M, a, F, B => ∀ u, (∀ b, u.blk = some b → n0 ≤ b ∧ ¬ B b) → MU ops n0 T M (a.put ((ops[p.1]?).bind (·.dst)) u) (fun w => F w ∧ p.2 u w) (fun b => B b ∨ u.blk = some b)
/-- the late pure ones -/
def PW (P : Program) (ops : Array Oper) (R : Act → Prop) : List Nat → Act → Prop
  | [], a => R a
  | i :: l, a => ∃ o, ops[i]? = some o ∧ ∃ v, Yields P ops o v a ∧ PW P ops R l (a.put o.dst v)
def dep (ops : Array Oper) (i j : Nat) : Bool := ((ops[i]?).map fun o => o.after.any fun e => Region.binds .any e && e.on == j).getD false
def apartB (ops : Array Oper) (i j : Nat) : Bool := match ops[i]?, ops[j]? with
  | some x, some y => x.apart ops y
  | _, _ => false
theorem apartB_spec {i j : Nat} {x y : Oper} (hi : ops[i]? = some x) (hj : ops[j]? = some y) (h : apartB ops i j = true) : x.apart ops y = true := by
  simpa [apartB, hi, hj] using h
def NoSel (ops : Array Oper) : Prop := ∀ (j : Nat) (o : Oper) cs b, ops[j]? = some o → o.op ≠ .select cs b

theorem QW.mono {R R' : Act → Prop} (h : ∀ a, R a → R' a) : ∀ {l : List Nat} {a : Act}, QW P ops C R l a → QW P ops C R' l a
  | [], _, hh => h _ hh
  | _ :: _, _, ⟨o, ho, v, hg, hh⟩ => ⟨o, ho, v, hg, QW.mono h hh⟩
theorem QW.front (hs : NoSel ops) {R : Act → Prop} {i : Nat} {oi : Oper} (hi : ops[i]? = some oi) (l2 : List Nat) : ∀ (l1 : List Nat) (a : Act), (∀ j, j ∈ l1 → apartB ops j i = true) →
    QW P ops C R (l1 ++ i :: l2) a → ∃ v, Gv P ops C oi a v ∧ QW P ops C R (l1 ++ l2) (a.put oi.dst v)
  | [], a, _, ⟨o, ho, v, hg, hh⟩ => by
    obtain rfl : oi = o := Option.some.inj (hi.symm.trans ho)
    exact ⟨v, hg, hh⟩
  | j :: l1, a, hap, ⟨o, ho, v, hg, hh⟩ => by
    obtain ⟨v', hg', hh'⟩ := QW.front hs hi l2 l1 _ (fun k hk => hap k (List.mem_cons_of_mem _ hk)) hh
    obtain ⟨a1, a2, a3⟩ := Oper.apart_spec (apartB_spec ho hi (hap j (List.mem_cons_self ..)))
    exact ⟨v', (Gv.put (fun cs b => hs i oi cs b hi) a1).1 hg', o, ho, v, (Gv.put (fun cs b => hs j o cs b ho) a3).2 hg, by rw [← Act.put_comm a v v' a2]; exact hh'⟩
/-- an operation that is apart from all the quiet ones may be put first -/
theorem QW.putFirst (hs : NoSel ops) {R : Act → Prop} {i : Nat} {oi : Oper} (hi : ops[i]? = some oi) (u : Value) : ∀ (l : List Nat) (a : Act), (∀ j, j ∈ l → apartB ops j i = true) →
    QW P ops C (fun a' => R (a'.put oi.dst u)) l a → QW P ops C R l (a.put oi.dst u)
  | [], _, _, h => h
  | j :: l, a, hap, ⟨o, ho, v, hg, hh⟩ => by
    obtain ⟨a1, a2, a3⟩ := Oper.apart_spec (apartB_spec ho hi (hap j (List.mem_cons_self ..)))
    refine ⟨o, ho, v, (Gv.put (fun cs b => hs j o cs b ho) a3).2 hg, ?_⟩
    rw [← Act.put_comm a v u a2]
    exact QW.putFirst hs hi u l _ (fun k hk => hap k (List.mem_cons_of_mem _ hk)) hh
/-- what is known of an operation behind the quiet ones, which are apart from it, and what goes on from it -/
theorem QW.pull (hs : NoSel ops) {i : Nat} {oi : Oper} (hi : ops[i]? = some oi) {α : Type} {X : Act → α → Prop} {Y : Act → α → Prop}
    (hX : ∀ (a : Act) (x : Oper) (u : Value) (k : α), (∀ d, x.dst = some d → d ∉ oi.looksAt ops) → X (a.put x.dst u) k → X a k) : ∀ (l : List Nat) (a : Act), (∀ j, j ∈ l → apartB ops j i = true) →
    QW P ops C (fun a' => ∃ k, X a' k ∧ Y a' k) l a → ∃ k, X a k ∧ QW P ops C (fun a' => Y a' k) l a
  | [], _, _, h => h
  | j :: l, a, hap, ⟨o, ho, v, hg, hh⟩ => by
    obtain ⟨a1, a2, a3⟩ := Oper.apart_spec (apartB_spec ho hi (hap j (List.mem_cons_self ..)))
    obtain ⟨k, hx, hy⟩ := QW.pull hs hi hX l _ (fun k hk => hap k (List.mem_cons_of_mem _ hk)) hh
    exact ⟨k, hX _ _ _ _ a1 hx, o, ho, v, hg, hy⟩
theorem PW.front (hs : NoSel ops) {R : Act → Prop} {i : Nat} {oi : Oper} (hi : ops[i]? = some oi) (l2 : List Nat) : ∀ (l1 : List Nat) (a : Act), (∀ j, j ∈ l1 → apartB ops j i = true) →
    PW P ops R (l1 ++ i :: l2) a → ∃ v, Yields P ops oi v a ∧ PW P ops R (l1 ++ l2) (a.put oi.dst v)
  | [], a, _, ⟨o, ho, v, hg, hh⟩ => by
    obtain rfl : oi = o := Option.some.inj (hi.symm.trans ho)
    exact ⟨v, hg, hh⟩
  | j :: l1, a, hap, ⟨o, ho, v, hg, hh⟩ => by
    obtain ⟨v', hg', hh'⟩ := PW.front hs hi l2 l1 _ (fun k hk => hap k (List.mem_cons_of_mem _ hk)) hh
    obtain ⟨a1, a2, a3⟩ := Oper.apart_spec (apartB_spec ho hi (hap j (List.mem_cons_self ..)))
    refine ⟨v', hg'.of_same (execOp_put oi (fun cs b => hs i oi cs b hi) a o.dst v a1).symm (wanted_put oi a o.dst v a1).symm, o, ho, v, hg.of_same (execOp_put o (fun cs b => hs j o cs b ho) a oi.dst v' a3) (wanted_put o a oi.dst v' a3), ?_⟩
    rw [← Act.put_comm a v v' a2]; exact hh'
theorem PW.mono {R R' : Act → Prop} (h : ∀ a, R a → R' a) : ∀ {l : List Nat} {a : Act}, PW P ops R l a → PW P ops R' l a
  | [], _, hh => h _ hh
  | _ :: _, _, ⟨o, ho, v, hg, hh⟩ => ⟨o, ho, v, hg, PW.mono h hh⟩
theorem Yields.inj {o : Oper} {v v' : Value} {a : Act} (h : Yields P ops o v a) (h' : Yields P ops o v' a) : v = v' := by
  rcases h with ⟨h1, h2⟩ | ⟨h1, h2⟩ <;> rcases h' with ⟨k1, k2⟩ | ⟨k1, k2⟩
  · have := (h2 default).symm.trans (k2 default)
    simpa using this
  · rw [h1] at k1; cases k1
  · rw [h1] at k1; cases k1
  · rw [h2, k2]
end
section
variable {P : Program} {ops : Array Oper} {C : World → Prop} {n0 : Nat} {Mv : World → World → Prop} {D : World → Prop} {Q : Exit → Act → World → Prop}
theorem Mk.put {a : Act} {p : Nat × (Value → Facts)} {o x : Oper} {u : Value} (hs : NoSel ops) (ho : ops[p.1]? = some o) (h : ∀ d, x.dst = some d → d ∉ o.looksAt ops) : Mk P ops C n0 Mv (a.put x.dst u) p ↔ Mk P ops C n0 Mv a p := by
  unfold Mk Oper.makes
  constructor
  all_goals
    rintro ⟨o', ho', h1, h2, h2', h3⟩
    obtain rfl : o = o' := Option.some.inj (ho.symm.trans ho')
    first
      | (rw [execOp_put (ops := ops) o (fun cs b => hs _ o cs b ho) a x.dst u h] at h3; rw [wanted_put o a x.dst u h] at h1; exact ⟨o, ho, h1, h2, h2', h3⟩)
      | (rw [← execOp_put (ops := ops) o (fun cs b => hs _ o cs b ho) a x.dst u h] at h3; rw [← wanted_put o a x.dst u h] at h1; exact ⟨o, ho, h1, h2, h2', h3⟩)
theorem MU.front {T : Act → Facts → Prop} {i : Nat} {oi : Oper} (hi : ops[i]? = some oi) (Φ : Value → Facts) (M2 : List (Nat × (Value → Facts))) : ∀ (M1 : List (Nat × (Value → Facts))) (a : Act) (F : Facts) (B : Blks),
    (∀ p, p ∈ M1 → apartB ops p.1 i = true) → MU ops n0 T (M1 ++ (i, Φ) :: M2) a F B →
    ∀ u, (∀ b, u.blk = some b → n0 ≤ b ∧ ¬ B b) → MU ops n0 T (M1 ++ M2) (a.put oi.dst u) (fun w => F w ∧ Φ u w) (fun b => B b ∨ u.blk = some b)
  | [], a, F, B, _, h => by
    intro u hu
    have := h u hu
    simpa [hi] using this
  | p :: M1, a, F, B, hap, h => by
    intro u hu up hup
    have hpi := hap p (List.mem_cons_self ..)
    obtain ⟨op, hop⟩ : ∃ op, ops[p.1]? = some op := by
      cases hp : ops[p.1]? with
      | none => simp [apartB, hp] at hpi
      | some x => exact ⟨x, rfl⟩
    obtain ⟨a1, a2, a3⟩ := Oper.apart_spec (apartB_spec hop hi hpi)
    have h1 := h up (fun b hb => ⟨(hup b hb).1, fun hB => (hup b hb).2 (.inl hB)⟩)
    have h2 := MU.front hi Φ M2 M1 _ _ _ (fun k hk => hap k (List.mem_cons_of_mem _ hk)) h1 u (fun b hb => ⟨(hu b hb).1, fun hB => by
      rcases hB with hB | hB
      · exact (hu b hb).2 hB
      · exact (hup b hB).2 (.inr hb)⟩)
    simp only [hop, Option.bind_some] at h2 ⊢
    rw [Act.put_comm a up u a2] at h2
    have e1 : (fun w => (F w ∧ p.2 up w) ∧ Φ u w) = (fun w => (F w ∧ Φ u w) ∧ p.2 up w) := by funext w; exact propext ⟨fun ⟨⟨x, y⟩, z⟩ => ⟨⟨x, z⟩, y⟩, fun ⟨⟨x, y⟩, z⟩ => ⟨⟨x, z⟩, y⟩⟩
    have e2 : (fun b => (B b ∨ up.blk = some b) ∨ u.blk = some b) = (fun b => (B b ∨ u.blk = some b) ∨ up.blk = some b) := by funext b; exact propext or_right_comm
    rw [e1, e2] at h2
    exact h2
theorem MU.mono {T T' : Act → Facts → Prop} (h : ∀ a F, T a F → T' a F) : ∀ {M : List (Nat × (Value → Facts))} {a : Act} {F : Facts} {B : Blks}, MU ops n0 T M a F B → MU ops n0 T' M a F B
  | [], _, _, _, hh => h _ _ hh
  | _ :: _, _, _, _, hh => fun u hu => MU.mono h (hh u hu)
/-- the makers and what follows -/
def MW (P : Program) (ops : Array Oper) (C : World → Prop) (n0 : Nat) (Mv : World → World → Prop) (T : Act → Facts → Prop) (lm : List Nat) (F : Facts) (B : Blks) (a : Act) : Prop :=
  ∃ M : List (Nat × (Value → Facts)), M.map Prod.fst = lm ∧ (∀ p, p ∈ M → Mk P ops C n0 Mv a p) ∧ MU ops n0 T M a F B
theorem MW.front (hs : NoSel ops) {T : Act → Facts → Prop} {i : Nat} {oi : Oper} (hi : ops[i]? = some oi) {m1 m2 : List Nat} {a : Act} {F : Facts} {B : Blks}
    (hap : ∀ j, j ∈ m1 ++ m2 → apartB ops j i = true ∨ apartB ops i j = true) (hap1 : ∀ j, j ∈ m1 → apartB ops j i = true) (h : MW P ops C n0 Mv T (m1 ++ i :: m2) F B a) :
    ∃ Φ, Mk P ops C n0 Mv a (i, Φ) ∧ ∀ u, (∀ b, u.blk = some b → n0 ≤ b ∧ ¬ B b) → MW P ops C n0 Mv T (m1 ++ m2) (fun w => F w ∧ Φ u w) (fun b => B b ∨ u.blk = some b) (a.put oi.dst u) := by
  obtain ⟨M, hM, hk, hu⟩ := h
  obtain ⟨M1, M', rfl, rfl, h2⟩ := List.map_eq_append_iff.1 hM
  obtain ⟨⟨i', Φ⟩, M2, rfl, rfl, rfl⟩ := List.map_eq_cons_iff.1 h2
  refine ⟨Φ, hk _ (by simp), fun u huf => ⟨M1 ++ M2, by simp, fun p hp => ?_, MU.front hi Φ M2 M1 a F B (fun p hp => hap1 p.1 (List.mem_map_of_mem hp)) hu u huf⟩⟩
  have hkp := hk p (by simp at hp ⊢; rcases hp with hp | hp <;> simp [hp])
  obtain ⟨op, hop, _⟩ := hkp
  refine (Mk.put hs hop ?_).2 (hk p (by simp at hp ⊢; rcases hp with hp | hp <;> simp [hp]))
  have hmem : p.1 ∈ M1.map Prod.fst ++ M2.map Prod.fst := by
    rw [← List.map_append]; exact List.mem_map_of_mem hp
  rcases hap p.1 hmem with h | h
  · exact (Oper.apart_spec (apartB_spec hop hi h)).2.2
  · exact (Oper.apart_spec (apartB_spec hi hop h)).1
/-- the late pure ones and the tail -/
def TO (P : Program) (ops : Array Oper) (D : World → Prop) (Q : Exit → Act → World → Prop) (lp τ : List Nat) (a : Act) (F : Facts) : Prop :=
  PW P ops (fun a3 => ∀ w, D w → F w → wpOps P ops Q τ a3 w) lp a
theorem MU.pure (hs : NoSel ops) {i : Nat} {oi : Oper} (hi : ops[i]? = some oi) {p1 p2 τ : List Nat} (hap1 : ∀ j, j ∈ p1 → apartB ops j i = true) : ∀ (M : List (Nat × (Value → Facts))) (a : Act) (F : Facts) (B : Blks),
    (∀ p, p ∈ M → apartB ops p.1 i = true) → MU ops n0 (TO P ops D Q (p1 ++ i :: p2) τ) M a F B →
    ∃ v, Yields P ops oi v a ∧ MU ops n0 (TO P ops D Q (p1 ++ p2) τ) M (a.put oi.dst v) F B
  | [], a, F, B, _, h => PW.front hs hi p2 p1 a hap1 h
  | p :: M, a, F, B, hap, h => by
    have hpi := hap p (List.mem_cons_self ..)
    obtain ⟨op, hop⟩ : ∃ op, ops[p.1]? = some op := by
      cases hp : ops[p.1]? with
      | none => simp [apartB, hp] at hpi
      | some x => exact ⟨x, rfl⟩
    obtain ⟨a1, a2, a3⟩ := Oper.apart_spec (apartB_spec hop hi hpi)
    have key : ∀ u v, Yields P ops oi v (a.put op.dst u) → Yields P ops oi v a := fun u v hy =>
      hy.of_same (execOp_put oi (fun cs b => hs i oi cs b hi) a op.dst u a1).symm (wanted_put oi a op.dst u a1).symm
    simp only [MU, hop, Option.bind_some] at h ⊢
    obtain ⟨v0, y0, _⟩ := MU.pure hs hi hap1 M _ _ _ (fun k hk => hap k (List.mem_cons_of_mem _ hk)) (h undef (fun b hb => by cases hb))
    refine ⟨v0, key _ _ y0, fun u hu => ?_⟩
    obtain ⟨v, y, hm⟩ := MU.pure hs hi hap1 M _ _ _ (fun k hk => hap k (List.mem_cons_of_mem _ hk)) (h u hu)
    obtain rfl := Yields.inj (key _ _ y) (key _ _ y0)
    rw [← Act.put_comm a u v a2]
    exact hm
theorem MW.pure (hs : NoSel ops) {i : Nat} {oi : Oper} (hi : ops[i]? = some oi) {lm p1 p2 τ : List Nat} {a : Act} {F : Facts} {B : Blks} (hap1 : ∀ j, j ∈ p1 → apartB ops j i = true) (hapm : ∀ j, j ∈ lm → apartB ops j i = true)
    (h : MW P ops C n0 Mv (TO P ops D Q (p1 ++ i :: p2) τ) lm F B a) : ∃ v, Yields P ops oi v a ∧ MW P ops C n0 Mv (TO P ops D Q (p1 ++ p2) τ) lm F B (a.put oi.dst v) := by
  obtain ⟨M, rfl, hk, hu⟩ := h
  obtain ⟨v, hy, hm⟩ := MU.pure hs hi hap1 M a F B (fun p hp => hapm p.1 (List.mem_map_of_mem hp)) hu
  refine ⟨v, hy, M, rfl, fun p hp => ?_, hm⟩
  obtain ⟨op, hop, _⟩ := hk p hp
  exact (Mk.put hs hop (Oper.apart_spec (apartB_spec hop hi (hapm p.1 (List.mem_map_of_mem hp)))).2.2).2 (hk p hp)
/-- what the writers do: one store that nothing else of the region reads -/
def WO (P : Program) (ops : Array Oper) (I D : World → Prop) (Mv : World → World → Prop) (lw : List Nat) (a : Act) : Prop :=
  ∀ j, j ∈ lw → ∃ o, ops[j]? = some o ∧ o.dst = none ∧ Region.wanted o (yielded ops a.tmps) = true ∧ ∀ w, I w → ∃ w', (execOp a.eval o).run P w = .ok .skip w' ∧ D w' ∧ Mv w w' ∧ w.heap.size ≤ w'.heap.size
theorem WO.put {I : World → Prop} (hs : NoSel ops) {j : Nat} {o x : Oper} {a : Act} {u : Value} (ho : ops[j]? = some o) (h : ∀ d, x.dst = some d → d ∉ o.looksAt ops) (hw : WO P ops I D Mv [j] (a.put x.dst u)) : WO P ops I D Mv [j] a := by
  intro k hk
  obtain rfl : k = j := by simpa using hk
  obtain ⟨o', ho', h0, h1, h2⟩ := hw k hk
  obtain rfl : o = o' := Option.some.inj (ho.symm.trans ho')
  rw [execOp_put (ops := ops) o (fun cs b => hs _ o cs b ho) a x.dst u h] at h2
  rw [wanted_put o a x.dst u h] at h1
  exact ⟨o, ho, h0, h1, h2⟩
/-- all that is owed ahead of the tail -/
def OA (P : Program) (ops : Array Oper) (C : World → Prop) (n0 : Nat) (Mv : World → World → Prop) (I D : World → Prop) (Q : Exit → Act → World → Prop) (lw lq lm lp τ : List Nat) (a : Act) (F : Facts) (B : Blks) : Prop :=
  QW P ops C (fun a' => WO P ops I D Mv lw a' ∧ MW P ops C n0 Mv (TO P ops D Q lp τ) lm F B a') lq a
theorem WO.put_all {I : World → Prop} (hs : NoSel ops) {x : Oper} {a : Act} {u : Value} {lw : List Nat} (h : ∀ j, j ∈ lw → ∀ o, ops[j]? = some o → ∀ d, x.dst = some d → d ∉ o.looksAt ops) (hw : WO P ops I D Mv lw a) : WO P ops I D Mv lw (a.put x.dst u) := by
  intro k hk
  obtain ⟨o, ho, h0, h1, h2⟩ := hw k hk
  rw [← execOp_put (ops := ops) o (fun cs b => hs _ o cs b ho) a x.dst u (h k hk o ho)] at h2
  rw [← wanted_put o a x.dst u (h k hk o ho)] at h1
  exact ⟨o, ho, h0, h1, h2⟩
theorem OA.maker {I : World → Prop} (hs : NoSel ops) {i : Nat} {oi : Oper} (hi : ops[i]? = some oi) {lw lq m1 m2 lp τ : List Nat} {a : Act} {F : Facts} {B : Blks}
    (hq : ∀ j, j ∈ lq → apartB ops j i = true) (hw : ∀ j, j ∈ lw → apartB ops i j = true) (hap : ∀ j, j ∈ m1 ++ m2 → apartB ops j i = true ∨ apartB ops i j = true) (hap1 : ∀ j, j ∈ m1 → apartB ops j i = true) (h : OA P ops C n0 Mv I D Q lw lq (m1 ++ i :: m2) lp τ a F B) :
    ∃ Φ, Mk P ops C n0 Mv a (i, Φ) ∧ ∀ u, (∀ b, u.blk = some b → n0 ≤ b ∧ ¬ B b) → OA P ops C n0 Mv I D Q lw lq (m1 ++ m2) lp τ (a.put oi.dst u) (fun w => F w ∧ Φ u w) (fun b => B b ∨ u.blk = some b) := by
  have h1 : QW P ops C (fun a' => ∃ Φ, Mk P ops C n0 Mv a' (i, Φ) ∧ ∀ u, (∀ b, u.blk = some b → n0 ≤ b ∧ ¬ B b) → WO P ops I D Mv lw (a'.put oi.dst u) ∧ MW P ops C n0 Mv (TO P ops D Q lp τ) (m1 ++ m2) (fun w => F w ∧ Φ u w) (fun b => B b ∨ u.blk = some b) (a'.put oi.dst u)) lq a :=
    QW.mono (fun a' ⟨h0, h'⟩ => let ⟨Φ, k1, k2⟩ := MW.front hs hi hap hap1 h'
      ⟨Φ, k1, fun u hu => ⟨WO.put_all hs (fun j hj o ho => (Oper.apart_spec (apartB_spec hi ho (hw j hj))).1) h0, k2 u hu⟩⟩) h
  obtain ⟨Φ, hx, hy⟩ := QW.pull hs hi (X := fun a' Φ => Mk P ops C n0 Mv a' (i, Φ)) (fun a x u k hd hk => (Mk.put hs hi hd).1 hk) lq a hq h1
  exact ⟨Φ, hx, fun u hu => QW.putFirst hs hi u lq a hq (QW.mono (fun a' h' => h' u hu) hy)⟩
theorem OA.pure {I : World → Prop} (hs : NoSel ops) {i : Nat} {oi : Oper} (hi : ops[i]? = some oi) {lw lq lm p1 p2 τ : List Nat} {a : Act} {F : Facts} {B : Blks}
    (hq : ∀ j, j ∈ lq → apartB ops j i = true) (hw : ∀ j, j ∈ lw → apartB ops i j = true) (hapm : ∀ j, j ∈ lm → apartB ops j i = true) (hap1 : ∀ j, j ∈ p1 → apartB ops j i = true) (h : OA P ops C n0 Mv I D Q lw lq lm (p1 ++ i :: p2) τ a F B) :
    ∃ v, Yields P ops oi v a ∧ OA P ops C n0 Mv I D Q lw lq lm (p1 ++ p2) τ (a.put oi.dst v) F B := by
  have h1 : QW P ops C (fun a' => ∃ v, Yields P ops oi v a' ∧ (WO P ops I D Mv lw (a'.put oi.dst v) ∧ MW P ops C n0 Mv (TO P ops D Q (p1 ++ p2) τ) lm F B (a'.put oi.dst v))) lq a :=
    QW.mono (fun a' ⟨h0, h'⟩ => let ⟨v, k1, k2⟩ := MW.pure hs hi hap1 hapm h'
      ⟨v, k1, WO.put_all hs (fun j hj o ho => (Oper.apart_spec (apartB_spec hi ho (hw j hj))).1) h0, k2⟩) h
  obtain ⟨v, hx, hy⟩ := QW.pull hs hi (X := fun a' v => Yields P ops oi v a') (fun a x u k hd hk => hk.of_same (execOp_put oi (fun cs b => hs i oi cs b hi) a x.dst u hd).symm (wanted_put oi a x.dst u hd).symm) lq a hq h1
  exact ⟨v, hx, QW.putFirst hs hi v lq a hq hy⟩
theorem OA.quiet {I : World → Prop} (hs : NoSel ops) {i : Nat} {oi : Oper} (hi : ops[i]? = some oi) {lw q1 q2 lm lp τ : List Nat} {a : Act} {F : Facts} {B : Blks}
    (hq : ∀ j, j ∈ q1 → apartB ops j i = true) (h : OA P ops C n0 Mv I D Q lw (q1 ++ i :: q2) lm lp τ a F B) : ∃ v, Gv P ops C oi a v ∧ OA P ops C n0 Mv I D Q lw (q1 ++ q2) lm lp τ (a.put oi.dst v) F B :=
  QW.front hs hi q2 q1 a hq h
theorem OA.writer {I : World → Prop} (hs : NoSel ops) {i : Nat} {oi : Oper} (hi : ops[i]? = some oi) {lq lm lp τ : List Nat} {a : Act} {F : Facts} {B : Blks}
    (hq : ∀ j, j ∈ lq → apartB ops j i = true) (h : OA P ops C n0 Mv I D Q [i] lq lm lp τ a F B) : WO P ops I D Mv [i] a ∧ OA P ops C n0 Mv I D Q [] lq lm lp τ a F B := by
  have h1 : QW P ops C (fun a' => ∃ _ : Unit, WO P ops I D Mv [i] a' ∧ MW P ops C n0 Mv (TO P ops D Q lp τ) lm F B a') lq a := QW.mono (fun a' h' => ⟨(), h'⟩) h
  obtain ⟨_, hx, hy⟩ := QW.pull hs hi (X := fun a' (_ : Unit) => WO P ops I D Mv [i] a') (fun a x u k hd hk => WO.put hs hi hd hk) lq a hq h1
  exact ⟨hx, QW.mono (fun a' h' => ⟨(fun j hj => by cases hj), h'⟩) hy⟩
theorem OA.tail {I : World → Prop} {lp τ : List Nat} {a : Act} {F : Facts} {B : Blks} (h : OA P ops C n0 Mv I D Q [] [] [] lp τ a F B) {w : World} (hw : D w) (hF : F w) : PW P ops (fun a3 => wpOps P ops Q τ a3 w) lp a := by
  obtain ⟨_, M, hM, _, hu⟩ := h
  obtain rfl : M = [] := List.map_eq_nil_iff.1 hM
  exact PW.mono (fun a' h' => h' w hw hF) hu
end
end Go
namespace Go
section
variable {P : Program} {ops : Array Oper} {C : World → Prop} {n0 : Nat} {Mv : World → World → Prop} {I D : World → Prop} {Q : Exit → Act → World → Prop}
/-- the tail may not panic -/
def only (Q : Exit → Act → World → Prop) : Exit → Act → World → Prop
  | .normal, a, w => Q .normal a w
  | _, _, _ => False
theorem wpOp_only {i : Nat} {K : Act → World → Prop} {a : Act} {w : World} (h : wpOp P ops (only Q) i K a w) : wpOp P ops Q i K a w := by
  unfold wpOp at *
  cases ho : ops[i]? with
  | none => simpa only [ho] using h
  | some o =>
    simp only [ho] at h ⊢
    split
    · rename_i hw
      rw [if_pos hw] at h
      rcases h with h | ⟨_, _, _, h⟩
      · refine .inl ?_
        unfold Oper.wp at *
        generalize (execOp a.eval o).run P w = r at *
        cases r with
        | ok n w' =>
          cases n <;> simp only [Oper.upon] at h ⊢ <;> first
            | exact h
            | exact Calls.mono h (fun e w'' he => by cases e <;> first | exact he | exact he.elim | (obtain ⟨_, _, he⟩ := he; exact he.elim))
        | halt x w' => cases x <;> simp only [Oper.upon] at h ⊢ <;> first | exact h | exact h.elim
      · exact h.elim
    · rename_i hw
      rw [if_neg hw] at h
      exact h
theorem wpAny_only : ∀ (fuel : Nat) (listed : Array Bool) (a : Act) (w : World), wpAny P .any ops (only Q) fuel listed a w → wpAny P .any ops Q fuel listed a w
  | 0, _, _, _, h => ⟨h.1, h.2⟩
  | fuel + 1, _, _, _, h => ⟨fun h0 => h.1 h0, fun i hi => wpOp_only (wpOp_mono (fun a' w' => wpAny_only fuel _ a' w') (h.2 i hi))⟩
structure Inv (ops : Array Oper) (listed : Array Bool) (pend : List Nat) : Prop where
  size : listed.size = ops.size
  closed : ∀ (i : Nat) (o : Oper), ops[i]? = some o → listed.getD i false = true → ∀ e, e ∈ o.after → Region.binds .any e = true → listed.getD e.on false = true
  pend : ∀ i, i < ops.size → (listed.getD i true = false ↔ i ∈ pend)
structure Edg (ops : Array Oper) : Prop where
  sel : NoSel ops
  on : ∀ (i : Nat) (o : Oper), ops[i]? = some o → ∀ e, e ∈ o.after → Region.binds .any e = true → e.on < ops.size
theorem dep_spec {i j : Nat} {o : Oper} (hi : ops[i]? = some o) : dep ops i j = true ↔ ∃ e, e ∈ o.after ∧ Region.binds .any e = true ∧ e.on = j := by
  simp only [dep, hi, Option.map_some, Option.getD_some]
  rw [← Array.any_toList, List.any_eq_true]
  simp
theorem listed_pend {listed : Array Bool} {pend : List Nat} (h : Inv ops listed pend) {i : Nat} (hi : i < ops.size) : listed.getD i false = true ↔ i ∉ pend := by
  rw [← h.pend i hi]
  have : i < listed.size := by rw [h.size]; exact hi
  simp [this]
theorem ready_spec {listed : Array Bool} {pend : List Nat} (h : Inv ops listed pend) (hE : Edg ops) {i : Nat} : i ∈ Region.ready .any ops listed ↔ i < ops.size ∧ i ∈ pend ∧ ∀ j, j ∈ pend → dep ops i j = false := by
  rw [mem_ready]
  constructor
  · rintro ⟨h0, o, ho, hall⟩
    have hi : i < ops.size := (Array.getElem?_eq_some_iff.1 ho).1
    refine ⟨hi, (h.pend i hi).1 h0, fun j hj => ?_⟩
    cases hd : dep ops i j with
    | false => rfl
    | true =>
      obtain ⟨e, he, hb, rfl⟩ := (dep_spec ho).1 hd
      have hl := hall e he hb
      exact absurd hj ((listed_pend h (hE.on i o ho e he hb)).1 hl)
  · rintro ⟨hi, hp, hd⟩
    refine ⟨(h.pend i hi).2 hp, ops[i], by simp [hi], fun e he hb => ?_⟩
    have ho : ops[i]? = some ops[i] := by simp [hi]
    have hs := hE.on i _ ho e he hb
    rw [listed_pend h hs]
    intro hj
    have := hd e.on hj
    rw [(dep_spec ho).2 ⟨e, he, hb, rfl⟩] at this
    cases this
theorem Inv.step {listed : Array Bool} {l1 l2 : List Nat} {i : Nat} (h : Inv ops listed (l1 ++ i :: l2)) (hE : Edg ops) (hn : (l1 ++ i :: l2).Nodup) (hr : i ∈ Region.ready .any ops listed) :
    Inv ops (listed.setIfInBounds i true) (l1 ++ l2) := by
  obtain ⟨hi, hp, hd⟩ := (ready_spec h hE).1 hr
  refine ⟨by simp [h.size], fun k o hk hl e he hb => ?_, fun k hk => ?_⟩
  · by_cases hki : k = i
    · subst hki
      obtain ⟨_, o', ho', hall⟩ := mem_ready.1 hr
      obtain rfl : o = o' := Option.some.inj (hk.symm.trans ho')
      exact getD_set_true (hall e he hb)
    · rw [getD_set_ne false (Ne.symm hki)] at hl
      exact getD_set_true (h.closed k o hk hl e he hb)
  · by_cases hki : k = i
    · subst hki
      have hlt : k < listed.size := by rw [h.size]; exact hi
      have : k ∉ l1 ++ l2 := by
        intro hm
        have h3 := List.nodup_append.1 hn
        rcases List.mem_append.1 hm with h4 | h4
        · exact h3.2.2 k h4 k (List.mem_cons_self ..) rfl
        · exact (List.nodup_cons.1 h3.2.1).1 h4
      simp [hlt, this]
    · rw [getD_set_ne true (Ne.symm hki), h.pend k hk]
      simp [hki]
/-- the order that is walked -/
structure Ordr (ops : Array Oper) (lq lm lw lp τ : List Nat) : Prop where
  nodup : (lq ++ lm ++ lw ++ lp ++ τ).Nodup
  fwd : (lq ++ lm ++ lw ++ lp ++ τ).Pairwise fun i j => dep ops i j = false
  irr : ∀ i, i ∈ lq ++ lm ++ lw ++ lp ++ τ → dep ops i i = false
  lt : ∀ i, i ∈ lq ++ lm ++ lw ++ lp ++ τ → i < ops.size
  ap : (lq ++ lm ++ lw ++ lp).Pairwise fun j i => dep ops i j = true ∨ apartB ops j i = true
  apM : lm.Pairwise fun j i => apartB ops j i = true
  apW : ∀ i, i ∈ lm ++ lp → ∀ j, j ∈ lw → apartB ops i j = true
  apT : ∀ i, i ∈ lq ++ lm ++ lp → ∀ t, t ∈ τ → dep ops t i = true ∨ apartB ops i t = true
theorem Ordr.sub {lq lm lw lp τ lq' lm' lw' lp' τ' : List Nat} (h : Ordr ops lq lm lw lp τ) (h1 : lq'.Sublist lq) (h2 : lm'.Sublist lm) (h5 : lw'.Sublist lw) (h3 : lp'.Sublist lp) (h4 : τ'.Sublist τ) : Ordr ops lq' lm' lw' lp' τ' := by
  have hs : (lq' ++ lm' ++ lw' ++ lp').Sublist (lq ++ lm ++ lw ++ lp) := ((h1.append h2).append h5).append h3
  have hs' : (lq' ++ lm' ++ lp').Sublist (lq ++ lm ++ lp) := (h1.append h2).append h3
  have ha : (lq' ++ lm' ++ lw' ++ lp' ++ τ').Sublist (lq ++ lm ++ lw ++ lp ++ τ) := hs.append h4
  exact ⟨h.nodup.sublist ha, h.fwd.sublist ha, fun i hi => h.irr i (ha.subset hi), fun i hi => h.lt i (ha.subset hi), h.ap.sublist hs, h.apM.sublist h2, fun i hi j hj => h.apW i ((h2.append h3).subset hi) j (h5.subset hj), fun i hi t ht => h.apT i (hs'.subset hi) t (h4.subset ht)⟩
def chain (ops : Array Oper) : List Nat → Bool
  | x :: y :: l => dep ops y x && chain ops (y :: l)
  | _ => true
theorem chain_tail {x : Nat} {l : List Nat} (h : chain ops (x :: l) = true) : chain ops l = true := by
  cases l with
  | nil => rfl
  | cons y l => simp only [chain, Bool.and_eq_true] at h; exact h.2
theorem chain_head : ∀ {τ : List Nat} {t : Nat}, chain ops τ = true → t ∈ τ → (∀ j, j ∈ τ → dep ops t j = false) → ∃ τ', τ = t :: τ'
  | [], _, _, h, _ => by cases h
  | x :: l, t, hc, ht, hd => by
    rcases List.mem_cons.1 ht with rfl | ht
    · exact ⟨l, rfl⟩
    · obtain ⟨τ', rfl⟩ := chain_head (chain_tail hc) ht (fun j hj => hd j (List.mem_cons_of_mem _ hj))
      simp only [chain, Bool.and_eq_true] at hc
      rw [hd x (List.mem_cons_self ..)] at hc
      cases hc.1
/-- every one of these is ahead of 't', by a row of direct edges -/
def cov (ops : Array Oper) (t : Nat) : List Nat → Bool
  | [] => true
  | j :: l => (l ++ [t]).any (fun k => dep ops k j) && cov ops t l
theorem cov_listed {listed : Array Bool} {pend : List Nat} (h : Inv ops listed pend) (hE : Edg ops) {t : Nat} (hr : t ∈ Region.ready .any ops listed) : ∀ {l : List Nat}, (∀ j, j ∈ l → j < ops.size) → cov ops t l = true → ∀ j, j ∈ l → j ∉ pend
  | [], _, _, _, hj => by cases hj
  | k :: l, hlt, hc, j, hj => by
    simp only [cov, Bool.and_eq_true] at hc
    have ih := cov_listed h hE hr (fun j hj => hlt j (List.mem_cons_of_mem _ hj)) hc.2
    rcases List.mem_cons.1 hj with rfl | hj
    · intro hp
      obtain ⟨k, hk, hd⟩ := List.any_eq_true.1 hc.1
      rcases List.mem_append.1 hk with hk | hk
      · have hkp := ih k hk
        have hks := hlt k (List.mem_cons_of_mem _ hk)
        have hkl := (listed_pend h hks).2 hkp
        have ho : ops[k]? = some ops[k] := by simp [hks]
        obtain ⟨e, he, hb, rfl⟩ := (dep_spec ho).1 hd
        have := h.closed k _ ho hkl e he hb
        exact (listed_pend h (hE.on k _ ho e he hb)).1 this hp
      · obtain rfl : k = t := by simpa using hk
        have := ((ready_spec h hE).1 hr).2.2 j hp
        rw [this] at hd; cases hd
    · exact ih j hj
theorem wpOp_at {i : Nat} {o : Oper} (ho : ops[i]? = some o) {K : Act → World → Prop} {a : Act} {w : World} (h : if Region.wanted o (yielded ops a.tmps) then o.wp P a w K Q else K (a.put o.dst undef) w) : wpOp P ops Q i K a w := by
  unfold wpOp
  simp only [ho]
  by_cases hw : Region.wanted o (yielded ops a.tmps) = true
  · rw [if_pos hw] at h ⊢; exact .inl h
  · rw [if_neg hw] at h ⊢; exact h
theorem wp_of_gv {o : Oper} {v : Value} {a : Act} {i : Nat} (hi : ops[i]? = some o) (hg : Gv P ops C o a v) {w : World} (hw : C w) {K : Act → World → Prop} (h : ∀ w', Ext w w' → K (a.put o.dst v) w') : wpOp P ops Q i K a w := by
  refine wpOp_at hi ?_
  rcases hg with ⟨h1, rfl⟩ | ⟨h1, h2⟩
  · rw [if_neg (by rw [h1]; exact Bool.false_ne_true)]; exact h w (Ext.refl w)
  · rw [if_pos h1]
    have h3 := h2 w hw
    unfold Oper.wp
    generalize (execOp a.eval o).run P w = r at *
    cases r with
    | ok n w' =>
      cases n <;> simp only [Oper.givesUpon] at h3 <;> simp only [Oper.upon]
      case value u => obtain ⟨rfl, rfl⟩ := h3; exact h _ (Ext.refl _)
      case enter f args =>
        obtain ⟨rfl, hc⟩ := h3
        exact hc.mono fun e w'' ⟨he, hx⟩ => by subst he; exact h _ hx
    | halt x w' => simp only [Oper.givesUpon] at h3
theorem wp_of_mk {o : Oper} {Φ : Value → Facts} {a : Act} {i : Nat} (hi : ops[i]? = some o) (hg : Mk P ops C n0 Mv a (i, Φ)) {w : World} (hw : C w) {K : Act → World → Prop}
    (h : ∀ u w', Ext w w' → Φ u w' → (∀ b, u.blk = some b → w.heap.size ≤ b ∧ b < w'.heap.size) → K (a.put o.dst u) w') : wpOp P ops Q i K a w := by
  obtain ⟨o', ho', h1, _, _, h2⟩ := hg
  obtain rfl : o = o' := Option.some.inj (hi.symm.trans ho')
  refine wpOp_at hi ?_
  rw [if_pos h1]
  have h3 := h2 w hw
  unfold Oper.wp
  generalize (execOp a.eval o).run P w = r at *
  cases r with
  | ok n w' =>
    cases n <;> simp only [Oper.makesUpon] at h3 <;> simp only [Oper.upon]
    case value u => exact h _ _ h3.1 h3.2.1 h3.2.2
    case enter f args =>
      obtain ⟨rfl, hc⟩ := h3
      exact hc.mono fun e w'' ⟨u, he, hx, hp, hb⟩ => by subst he; exact h _ _ hx hp hb
  | halt x w' => simp only [Oper.makesUpon] at h3
/-- a tail's operation ahead of the pure ones -/
theorem PW.push (hs : NoSel ops) {t : Nat} {ot : Oper} (ht : ops[t]? = some ot) {K : Act → World → Prop} {w : World} : ∀ (l : List Nat) (a : Act), (∀ i, i ∈ l → apartB ops i t = true) →
    PW P ops (fun a3 => wpOp P ops (only Q) t K a3 w) l a → wpOp P ops (only Q) t (fun a' w' => PW P ops (fun a3 => K a3 w') l a') a w
  | [], _, _, h => h
  | i :: l, a, hap, ⟨o, ho, v, hy, h⟩ => by
    have h1 := PW.push hs ht l _ (fun k hk => hap k (List.mem_cons_of_mem _ hk)) h
    have h2 := wpOp_put ht (apartB_spec ho ht (hap i (List.mem_cons_self ..))) (fun cs b => hs i o cs b ho) (fun cs b => hs t ot cs b ht) (fun _ _ _ hf => hf.elim) hy h1
    exact wpOp_mono (fun a' w' ⟨hy', hk⟩ => ⟨o, ho, v, hy', hk⟩) h2
theorem head_ready {listed : Array Bool} {i : Nat} {l : List Nat} (h : Inv ops listed (i :: l)) (hE : Edg ops) (hf : (i :: l).Pairwise fun i j => dep ops i j = false) (hirr : dep ops i i = false) (hlt : i < ops.size) : i ∈ Region.ready .any ops listed :=
  (ready_spec h hE).2 ⟨hlt, List.mem_cons_self .., fun j hj => by
    rcases List.mem_cons.1 hj with rfl | hj
    · exact hirr
    · exact (List.pairwise_cons.1 hf).1 j hj⟩
/-- the tail's phase -/
theorem calmB (hE : Edg ops) : ∀ (fuel : Nat) (listed : Array Bool) (a : Act) (w : World) (lp τ : List Nat), Inv ops listed (lp ++ τ) → Ordr ops [] [] [] lp τ → chain ops τ = true → fuel = (lp ++ τ).length →
    PW P ops (fun a3 => wpOps P ops (only Q) τ a3 w) lp a → wpAny P .any ops (only Q) fuel listed a w
  | 0, listed, a, w, lp, τ, hI, hO, hc, hf, h => by
    have : lp ++ τ = [] := List.eq_nil_of_length_eq_zero hf.symm
    obtain ⟨rfl, rfl⟩ := List.append_eq_nil_iff.1 this
    refine ⟨?_, h⟩
    rw [List.eq_nil_iff_forall_not_mem]
    intro i hi
    have := ((ready_spec hI hE).1 hi).2.1
    cases this
  | fuel + 1, listed, a, w, lp, τ, hI, hO, hc, hf, h => by
    have hO' := hO
    refine ⟨fun h0 => ?_, fun i hi => ?_⟩
    · exfalso
      cases hl : lp ++ τ with
      | nil => rw [hl] at hf; cases hf
      | cons x l =>
        rw [hl] at hI
        have := head_ready hI hE (by rw [← hl]; simpa using hO.fwd) (hO.irr x (by simp [hl])) (hO.lt x (by simp [hl]))
        rw [h0] at this; cases this
    · obtain ⟨hlt, hp, hd⟩ := (ready_spec hI hE).1 hi
      have hio : ops[i]? = some ops[i] := by simp [hlt]
      rcases List.mem_append.1 hp with hp | hp
      · obtain ⟨l1, l2, rfl⟩ := List.append_of_mem hp
        have hap : ∀ j, j ∈ l1 → apartB ops j i = true := fun j hj => by
          have := (List.pairwise_append.1 (by simpa using hO.ap : (l1 ++ i :: l2).Pairwise _)).2.2 j hj i (List.mem_cons_self ..)
          rcases this with h3 | h3
          · rw [hd j (by simp [hj])] at h3; cases h3
          · exact h3
        obtain ⟨v, hy, hk⟩ := PW.front hE.sel hio l2 l1 a hap h
        have hI' : Inv ops listed (l1 ++ i :: (l2 ++ τ)) := by simpa using hI
        refine hy.wpOp hio (calmB hE fuel _ _ _ (l1 ++ l2) τ (by simpa using hI'.step hE (by simpa using hO.nodup) hi) (hO.sub (List.Sublist.refl _) (List.Sublist.refl _) (List.Sublist.refl _) (by simp) (List.Sublist.refl _)) hc (by simp at hf ⊢; omega) hk)
      · obtain ⟨τ', rfl⟩ := chain_head hc hp (fun j hj => hd j (by simp [hj]))
        have hap : ∀ j, j ∈ lp → apartB ops j i = true := fun j hj => by
          rcases hO.apT j (by simpa using hj) i (List.mem_cons_self ..) with h3 | h3
          · rw [hd j (by simp [hj])] at h3; cases h3
          · exact h3
        have h1 := PW.push (K := wpOps P ops (only Q) τ') hE.sel hio lp a hap (PW.mono (fun a3 h3 => by rw [wpOps_cons] at h3; exact h3) h)
        exact wpOp_mono (fun a' w' h2 => calmB hE fuel _ a' w' lp τ' (hI.step hE (by simpa using hO.nodup) hi) (hO.sub (List.Sublist.refl _) (List.Sublist.refl _) (List.Sublist.refl _) (List.Sublist.refl _) (List.sublist_cons_self ..)) (chain_tail hc) (by simp at hf ⊢; omega) h2) h1
/-- the first phase -/
theorem calmA (hE : Edg ops) (hCI : ∀ w, I w → C w) (hCD : ∀ w, D w → C w) (hIx : ∀ w w', I w → Ext w w' → I w') (hDx : ∀ w w', D w → Ext w w' → D w')
    (np : List Nat) (hnp : ∀ j, j ∈ np → j < ops.size) (τ : List Nat) (hcov : ∀ t, τ.head? = some t → cov ops t np = true) : ∀ (fuel : Nat) (listed : Array Bool) (a : Act) (w : World) (F : Facts) (B : Blks) (lw lq lm lp : List Nat),
    Inv ops listed (lq ++ lm ++ lw ++ lp ++ τ) → Ordr ops lq lm lw lp τ → chain ops τ = true → (∀ j, j ∈ lq ++ lm ++ lw → j ∈ np) → fuel = (lq ++ lm ++ lw ++ lp ++ τ).length →
    lw.length ≤ 1 → (lw ≠ [] → I w) → (lw = [] → D w) → n0 ≤ w.heap.size → F w → (∀ w w', F w → Ext w w' → F w') → (∀ w w', F w → Mv w w' → F w') → (∀ b, B b → b < w.heap.size) → OA P ops C n0 Mv I D (only Q) lw lq lm lp τ a F B → wpAny P .any ops (only Q) fuel listed a w
  | 0, listed, a, w, F, B, lw, lq, lm, lp, hI, hO, hc, hn, hf, hw1, hwI, hwD, hn0, hF, hFs, hFm, hB, h => by
    have h0 : lq ++ lm ++ lw ++ lp ++ τ = [] := List.eq_nil_of_length_eq_zero hf.symm
    simp only [List.append_eq_nil_iff] at h0
    obtain ⟨⟨⟨⟨rfl, rfl⟩, rfl⟩, rfl⟩, rfl⟩ := h0
    exact calmB hE 0 listed a w [] [] hI hO hc rfl (OA.tail h (hwD rfl) hF)
  | fuel + 1, listed, a, w, F, B, lw, lq, lm, lp, hI, hO, hc, hn, hf, hw1, hwI, hwD, hn0, hF, hFs, hFm, hB, h => by
    have hCw : C w := by
      by_cases hl : lw = []
      · exact hCD w (hwD hl)
      · exact hCI w (hwI hl)
    refine ⟨fun h0 => ?_, fun i hi => ?_⟩
    · exfalso
      cases hl : lq ++ lm ++ lw ++ lp ++ τ with
      | nil => rw [hl] at hf; cases hf
      | cons x l =>
        rw [hl] at hI
        have := head_ready hI hE (by rw [← hl]; exact hO.fwd) (hO.irr x (by rw [hl]; exact List.mem_cons_self ..)) (hO.lt x (by rw [hl]; exact List.mem_cons_self ..))
        rw [h0] at this; cases this
    · obtain ⟨hlt, hp, hd⟩ := (ready_spec hI hE).1 hi
      have hio : ops[i]? = some ops[i] := by simp [hlt]
      -- whatever is pending and ahead of i is apart from it
      have hapS : ∀ l1 l2, lq ++ lm ++ lw ++ lp = l1 ++ i :: l2 → ∀ j, j ∈ l1 → apartB ops j i = true := fun l1 l2 he j hj => by
        have h2 := hO.ap
        rw [he] at h2
        rcases (List.pairwise_append.1 h2).2.2 j hj i (List.mem_cons_self ..) with h3 | h3
        · have : j ∈ lq ++ lm ++ lw ++ lp ++ τ := by rw [he]; simp [hj]
          rw [hd j this] at h3; cases h3
        · exact h3
      have hwI' : ∀ w', Ext w w' → lw ≠ [] → I w' := fun w' hx hl => hIx w w' (hwI hl) hx
      have hwD' : ∀ w', Ext w w' → lw = [] → D w' := fun w' hx hl => hDx w w' (hwD hl) hx
      rcases List.mem_append.1 hp with hp | hp
      · rcases List.mem_append.1 hp with hp | hp
        · rcases List.mem_append.1 hp with hp | hp
          · rcases List.mem_append.1 hp with hp | hp
            · -- a quiet one
              obtain ⟨l1, l2, rfl⟩ := List.append_of_mem hp
              obtain ⟨v, hg, hk⟩ := OA.quiet hE.sel hio (hapS l1 (l2 ++ lm ++ lw ++ lp) (by simp)) h
              have hI' : Inv ops listed (l1 ++ i :: (l2 ++ lm ++ lw ++ lp ++ τ)) := by simpa using hI
              refine wp_of_gv hio hg hCw fun w' hx => ?_
              exact calmA hE hCI hCD hIx hDx np hnp τ hcov fuel _ _ _ F B lw (l1 ++ l2) lm lp (by simpa using hI'.step hE (by simpa using hO.nodup) hi) (hO.sub (by simp) (List.Sublist.refl _) (List.Sublist.refl _) (List.Sublist.refl _) (List.Sublist.refl _)) hc
                (fun j hj => hn j (by simp at hj ⊢; rcases hj with hj | hj | hj | hj <;> simp [hj])) (by simp at hf ⊢; omega) hw1 (hwI' w' hx) (hwD' w' hx) (Nat.le_trans hn0 hx.size) (hFs _ _ hF hx) hFs hFm (fun b hb => Nat.lt_of_lt_of_le (hB b hb) hx.size) hk
            · -- a maker
              obtain ⟨l1, l2, rfl⟩ := List.append_of_mem hp
              have hq1 := hapS (lq ++ l1) (l2 ++ lw ++ lp) (by simp)
              obtain ⟨Φ, hg, hk⟩ := OA.maker hE.sel hio (fun j hj => hq1 j (by simp [hj])) (fun j hj => hO.apW i (by simp) j hj) (fun j hj => by
                rcases List.mem_append.1 hj with hj | hj
                · exact .inl (hq1 j (by simp [hj]))
                · exact .inr ((List.pairwise_cons.1 (List.pairwise_append.1 hO.apM).2.1).1 j hj)) (fun j hj => hq1 j (by simp [hj])) h
              have hI' : Inv ops listed ((lq ++ l1) ++ i :: (l2 ++ lw ++ lp ++ τ)) := by simpa using hI
              refine wp_of_mk hio hg hCw fun u w' hx hΦ hb => ?_
              obtain ⟨hst, hsm⟩ : Stable Φ ∧ StableM n0 Mv Φ := by obtain ⟨_, _, _, hst, hsm, _⟩ := hg; exact ⟨hst, hsm⟩
              have hfr : ∀ b, u.blk = some b → n0 ≤ b ∧ ¬ B b := fun b h1 => ⟨Nat.le_trans hn0 (hb b h1).1, fun h2 => by have := hB b h2; have := (hb b h1).1; omega⟩
              exact calmA hE hCI hCD hIx hDx np hnp τ hcov fuel _ _ _ _ _ lw lq (l1 ++ l2) lp (by simpa using hI'.step hE (by simpa using hO.nodup) hi) (hO.sub (List.Sublist.refl _) (by simp) (List.Sublist.refl _) (List.Sublist.refl _) (List.Sublist.refl _)) hc
                (fun j hj => hn j (by simp at hj ⊢; rcases hj with hj | hj | hj | hj <;> simp [hj])) (by simp at hf ⊢; omega) hw1 (hwI' w' hx) (hwD' w' hx) (Nat.le_trans hn0 hx.size) ⟨hFs _ _ hF hx, hΦ⟩
                (fun w1 w2 h1 h2 => ⟨hFs _ _ h1.1 h2, hst _ _ _ h1.2 h2⟩) (fun w1 w2 h1 h2 => ⟨hFm _ _ h1.1 h2, hsm _ _ _ h1.2 (fun b hb => (hfr b hb).1) h2⟩) (fun b h1 => by
                  rcases h1 with h1 | h1
                  · exact Nat.lt_of_lt_of_le (hB b h1) hx.size
                  · exact (hb b h1).2) (hk u hfr)
          · -- the writer
            obtain rfl : lw = [i] := by
              match lw, hw1, hp with
              | [x], _, hp => rw [List.mem_singleton.1 hp]
            have hq1 := hapS (lq ++ lm) lp (by simp)
            obtain ⟨hwo, hk⟩ := OA.writer hE.sel hio (fun j hj => hq1 j (by simp [hj])) h
            obtain ⟨o', ho', hdst, hwant, hrun⟩ := hwo i (List.mem_singleton.2 rfl)
            obtain rfl : ops[i] = o' := Option.some.inj (hio.symm.trans ho')
            obtain ⟨w', hr, hD', hM, hsz⟩ := hrun w (hwI (by simp))
            have hI' : Inv ops listed ((lq ++ lm) ++ i :: (lp ++ τ)) := by simpa using hI
            refine wpOp_at hio ?_
            rw [if_pos hwant]
            unfold Oper.wp
            rw [hr]
            simp only [Oper.upon, hdst, Act.put]
            exact calmA hE hCI hCD hIx hDx np hnp τ hcov fuel _ _ _ F B [] lq lm lp (by simpa using hI'.step hE (by simpa using hO.nodup) hi) (hO.sub (List.Sublist.refl _) (List.Sublist.refl _) (List.nil_sublist _) (List.Sublist.refl _) (List.Sublist.refl _)) hc
              (fun j hj => hn j (by simp at hj ⊢; rcases hj with hj | hj <;> simp [hj])) (by simp at hf ⊢; omega) (by simp) (fun h => absurd rfl h) (fun _ => hD') (Nat.le_trans hn0 hsz) (hFm _ _ hF hM) hFs hFm (fun b hb => Nat.lt_of_lt_of_le (hB b hb) hsz) hk
        · -- a pure one
          obtain ⟨l1, l2, rfl⟩ := List.append_of_mem hp
          have hq1 := hapS (lq ++ lm ++ lw ++ l1) l2 (by simp)
          obtain ⟨v, hy, hk⟩ := OA.pure hE.sel hio (fun j hj => hq1 j (by simp [hj])) (fun j hj => hO.apW i (by simp) j hj) (fun j hj => hq1 j (by simp [hj])) (fun j hj => hq1 j (by simp [hj])) h
          have hI' : Inv ops listed ((lq ++ lm ++ lw ++ l1) ++ i :: (l2 ++ τ)) := by simpa using hI
          refine hy.wpOp hio ?_
          exact calmA hE hCI hCD hIx hDx np hnp τ hcov fuel _ _ _ F B lw lq lm (l1 ++ l2) (by simpa using hI'.step hE (by simpa using hO.nodup) hi) (hO.sub (List.Sublist.refl _) (List.Sublist.refl _) (List.Sublist.refl _) (by simp) (List.Sublist.refl _)) hc hn (by simp at hf ⊢; omega) hw1 hwI hwD hn0 hF hFs hFm hB hk
      · -- the tail's first
        obtain ⟨τ', hτ⟩ := chain_head hc hp (fun j hj => hd j (by simp [hj]))
        have hcl := cov_listed hI hE hi hnp (hcov i (by rw [hτ]; rfl))
        obtain rfl : lq = [] := List.eq_nil_iff_forall_not_mem.2 fun j hj => hcl j (hn j (by simp [hj])) (by simp [hj])
        obtain rfl : lm = [] := List.eq_nil_iff_forall_not_mem.2 fun j hj => hcl j (hn j (by simp [hj])) (by simp [hj])
        obtain rfl : lw = [] := List.eq_nil_iff_forall_not_mem.2 fun j hj => hcl j (hn j (by simp [hj])) (by simp [hj])
        have := calmB (P := P) (Q := Q) hE (fuel + 1) listed a w lp τ hI hO hc (by simpa using hf) (OA.tail h (hwD rfl) hF)
        exact this.2 i hi
end
end Go
namespace Go
section
variable {P : Program} {ops : Array Oper} {C : World → Prop} {n0 : Nat} {Mv : World → World → Prop} {I D : World → Prop} {w0 : World} {Q : Exit → Act → World → Prop}
def pairB (r : Nat → Nat → Bool) : List Nat → Bool
  | [] => true
  | x :: l => l.all (r x) && pairB r l
theorem pairB_spec {r : Nat → Nat → Bool} : ∀ {l : List Nat}, pairB r l = true → l.Pairwise fun x y => r x y = true
  | [], _ => List.Pairwise.nil
  | x :: l, h => by
    simp only [pairB, Bool.and_eq_true, List.all_eq_true] at h
    exact List.pairwise_cons.2 ⟨h.1, pairB_spec h.2⟩
def edgB (ops : Array Oper) : Bool := Region.noSelect ops && (List.range ops.size).all fun i => ((ops[i]?).map fun o => o.after.all fun e => !Region.binds .any e || decide (e.on < ops.size)).getD true
def calmOk (ops : Array Oper) (lw lq lm lp τ : List Nat) : Bool :=
  edgB ops && (List.range ops.size).all (fun i => (lq ++ lm ++ lw ++ lp ++ τ).contains i) && (lq ++ lm ++ lw ++ lp ++ τ).all (fun i => decide (i < ops.size) && !dep ops i i) &&
  pairB (fun i j => i != j && !dep ops i j) (lq ++ lm ++ lw ++ lp ++ τ) && pairB (fun j i => dep ops i j || apartB ops j i) (lq ++ lm ++ lw ++ lp) && pairB (apartB ops) lm &&
  (lm ++ lp).all (fun i => lw.all fun j => apartB ops i j) && (lq ++ lm ++ lp).all (fun i => τ.all fun t => dep ops t i || apartB ops i t) && chain ops τ && (τ.head?.map fun t => cov ops t (lq ++ lm ++ lw)).getD true
theorem wp_region_calm_gen {id : Nat} {a : Act} {w : World} {l : List Oper} (lw lq lm lp τ : List Nat) (hm : P.follows .mixedOrders = true) (hB : calmOk l.toArray lw lq lm lp τ = true)
    (hCI : ∀ w, I w → C w) (hCD : ∀ w, D w → C w) (hIx : ∀ w w', I w → Ext w w' → I w') (hDx : ∀ w w', D w → Ext w w' → D w') (hl1 : lw.length ≤ 1) (hI0 : lw ≠ [] → I w.drew) (hD0 : lw = [] → D w.drew) (hn0 : n0 ≤ w.heap.size)
    (h : OA P l.toArray C n0 Mv I D (only Q) lw lq lm lp τ a (fun _ => True) (fun _ => False)) : (Code.region id l.toArray true).wp P Q a w := by
  simp only [calmOk, edgB, Bool.and_eq_true] at hB
  obtain ⟨⟨⟨⟨⟨⟨⟨⟨⟨⟨b0, b0'⟩, b1⟩, b2⟩, b3⟩, b4⟩, b5⟩, b9⟩, b6⟩, b7⟩, b8⟩ := hB
  have hE : Edg l.toArray := ⟨fun j o cs b hj => Region.noSelect_spec b0 j o cs b hj, fun i o hi e he hb => by
    have hlt : i < l.toArray.size := (Array.getElem?_eq_some_iff.1 hi).1
    have := List.all_eq_true.1 b0' i (List.mem_range.2 hlt)
    simp only [hi, Option.map_some, Option.getD_some, Array.all_eq_true_iff_forall_mem, Bool.or_eq_true, Bool.not_eq_true', decide_eq_true_eq] at this
    rcases this e he with h | h
    · rw [hb] at h; cases h
    · exact h⟩
  have hall := fun i hi => List.all_eq_true.1 b2 i hi
  have hlt : ∀ i, i ∈ lq ++ lm ++ lw ++ lp ++ τ → i < l.toArray.size := fun i hi => by
    have := hall i hi; simp only [Bool.and_eq_true, decide_eq_true_eq] at this; exact this.1
  have hirr : ∀ i, i ∈ lq ++ lm ++ lw ++ lp ++ τ → dep l.toArray i i = false := fun i hi => by
    have := hall i hi; simp only [Bool.and_eq_true, Bool.not_eq_true'] at this; exact this.2
  have hnd : (lq ++ lm ++ lw ++ lp ++ τ).Nodup := (pairB_spec b3).imp fun h => by simp only [Bool.and_eq_true, bne_iff_ne] at h; exact h.1
  have hfw := (pairB_spec b3).imp fun {i j} (h : (i != j && !dep l.toArray i j) = true) => (by simp only [Bool.and_eq_true, Bool.not_eq_true'] at h; exact h.2 : dep l.toArray i j = false)
  have hO : Ordr l.toArray lq lm lw lp τ := ⟨hnd, hfw, hirr, hlt, (pairB_spec b4).imp fun h => by simpa using h, pairB_spec b5, fun i hi j hj => List.all_eq_true.1 (List.all_eq_true.1 b9 i hi) j hj, fun i hi t ht => by
    have := List.all_eq_true.1 (List.all_eq_true.1 b6 i hi) t ht
    simpa using this⟩
  have hmem : ∀ i, i < l.toArray.size → i ∈ lq ++ lm ++ lw ++ lp ++ τ := fun i hi => by
    have := List.all_eq_true.1 b1 i (List.mem_range.2 hi)
    simpa using this
  have hI : Inv l.toArray (Array.replicate l.toArray.size false) (lq ++ lm ++ lw ++ lp ++ τ) := by
    refine ⟨by simp, fun i o hi hl => ?_, fun i hi => ?_⟩
    · have hlt : i < l.toArray.size := (Array.getElem?_eq_some_iff.1 hi).1
      simp only [List.size_toArray] at hlt
      simp [hlt] at hl
    · have := hmem i hi
      simp only [List.size_toArray] at hi
      constructor
      · intro _; exact this
      · intro _; simp [hi]
  have hlen : l.toArray.size = (lq ++ lm ++ lw ++ lp ++ τ).length := by
    have h1 : (List.range l.toArray.size).Perm (lq ++ lm ++ lw ++ lp ++ τ) := by
      rw [List.perm_ext_iff_of_nodup List.nodup_range hnd]
      intro i
      exact ⟨fun h => hmem i (List.mem_range.1 h), fun h => List.mem_range.2 (hlt i h)⟩
    have := h1.length_eq
    simpa using this
  refine wp_region_any hm (wpAny_only _ _ _ _ ?_)
  exact calmA hE hCI hCD hIx hDx (lq ++ lm ++ lw) (fun j hj => hlt j (by simp at hj ⊢; rcases hj with hj | hj | hj <;> simp [hj])) τ (fun t ht => by rw [ht] at b8; simpa using b8) l.toArray.size _ a _ (fun _ => True) (fun _ => False) lw lq lm lp hI hO b7 (fun j hj => hj) hlen
    hl1 hI0 hD0 hn0 trivial (fun _ _ _ _ => trivial) (fun _ _ _ _ => trivial) (fun _ h => h.elim) h

/-! the steps -/
/-- the quiet ones, the operations themselves -/
def QL (P : Program) (ops : Array Oper) (C : World → Prop) (R : Act → Prop) : List Oper → Act → Prop
  | [], a => R a
  | o :: l, a => ∃ v, Gv P ops C o a v ∧ QL P ops C R l (a.put o.dst v)
theorem ql_qw {R : Act → Prop} : ∀ {l : List Nat} {a : Act}, (∀ i, i ∈ l → i < ops.size) → QL P ops C R (l.filterMap (ops[·]?)) a → QW P ops C R l a
  | [], _, _, h => h
  | i :: l, a, hlt, h => by
    have hi : ops[i]? = some (ops[i]'(hlt i (List.mem_cons_self ..))) := by simp [hlt i (List.mem_cons_self ..)]
    rw [List.filterMap_cons, hi] at h
    obtain ⟨v, hg, hh⟩ := h
    exact ⟨_, hi, v, hg, ql_qw (fun k hk => hlt k (List.mem_cons_of_mem _ hk)) hh⟩
theorem ql_nil {R : Act → Prop} {a : Act} (h : R a) : QL P ops C R [] a := h
theorem ql_skip {R : Act → Prop} {a : Act} {l : List Oper} {o : Oper} (hw : Region.wanted o (yielded ops a.tmps) = false) (h : ∀ K : Act → Prop, (∀ a, QL P ops C R l a → K a) → K (a.put o.dst undef)) : QL P ops C R (o :: l) a :=
  ⟨undef, .inl ⟨hw, rfl⟩, h _ fun _ h => h⟩
theorem ql_gives {R : Act → Prop} {a : Act} {l : List Oper} {o : Oper} {v : Value} (hw : Region.wanted o (yielded ops a.tmps) = true) (hg : o.gives P a C v) (h : QL P ops C R l (a.put o.dst v)) : QL P ops C R (o :: l) a :=
  ⟨v, .inr ⟨hw, hg⟩, h⟩
def Op.builtinly : Op → Bool
  | .call { callee := .builtin .len, .. } | .call { callee := .builtin .cap, .. } | .call { callee := .builtin .max, .. } | .call { callee := .builtin .min, .. } => true
  | _ => false
theorem builtinly_value {ρ : Operand → Value} {o : Oper} {w w' : World} {n : Next} (hp : o.op.builtinly = true) (h : (execOp ρ o).run P w = .ok n w') : ∃ u, n = .value u := by
  unfold execOp at h
  cases hop : o.op <;> simp only [hop, Op.builtinly] at hp h
  case call c =>
    obtain ⟨callee, args, ats⟩ := c
    cases callee with
    | value f => cases hp
    | invoke r m => cases hp
    | builtin b =>
      cases b <;> first
        | (cases hp; done)
        | (simp only [resolve, invoke, builtin_len, builtin_cap, builtin_max, builtin_min, bind, pure, Sem.bind] at h; exact run_value_only id _ h)
        | (unfold resolve invoke at h; simp only [bind, pure, Sem.bind] at h; unfold builtin at h; exact run_value_only id _ h)
  all_goals cases hp
/-- an operation without a call: the kit's quiet operation, in the class of w0's extensions -/
theorem ql_plain {R : Act → Prop} {a : Act} {l : List Oper} {o : Oper} (hp : (o.op.plainly || o.op.builtinly) = true) (hw : Region.wanted o (yielded ops a.tmps) = true)
    (h : ∀ K : Act → Prop, (∀ a, QL P ops C R l a → K a) → o.quiet P a C K) : QL P ops C R (o :: l) a := by
  obtain ⟨v, h1, h2⟩ := h _ fun _ h => h
  refine ql_gives hw (fun w hw' => ?_) h2
  have h3 := h1 w hw'
  unfold Oper.quietAt at h3
  cases hr : (execOp a.eval o).run P w with
  | ok n w' =>
    rw [hr] at h3
    have hv : ∃ u, n = .value u := by
      rcases Bool.or_eq_true _ _ |>.mp hp with hp | hp
      · exact plainly_value hp hr
      · exact builtinly_value hp hr
    obtain ⟨u, rfl⟩ := hv
    exact h3
  | halt x w' => rw [hr] at h3; exact h3.elim
theorem ql_nilCheck {R : Act → Prop} {a : Act} {l : List Oper} {o : Oper} {x : Operand} {p : Addr} (hop : o.op = .nilCheck x) (hx : a.eval x = .pointer (some p)) (hw : Region.wanted o (yielded ops a.tmps) = true)
    (h : ∀ K : Act → Prop, (∀ a, QL P ops C R l a → K a) → K (a.put o.dst (.pointer (some p)))) : QL P ops C R (o :: l) a :=
  ql_gives hw (fun w _ => by
    have : (execOp a.eval o).run P w = .ok (.value (.pointer (some p))) w := by simp [execOp, hop, hx, pure]
    rw [this]; exact ⟨rfl, rfl⟩) (h _ fun _ h => h)
theorem run_call_func {P : Program} {a : Act} {o : Oper} {f : FuncId} {fn : Func} {xs : List Operand} {args : List Value} {ats : Array TypeId} {w : World} (hop : o.op = .call { callee := .value (.func f), args := xs.toArray, argTypes := ats })
    (hargs : xs.map a.eval = args) (hf : P.funcs[f]? = some fn) (hb : fn.body.isNone = false) (hn : (fn.name == "runtime.NumGoroutine") = false) :
    (execOp a.eval o).run P w = .ok (.enter f args.toArray) w := by
  have hn' : ¬ fn.name = "runtime.NumGoroutine" := by simpa using hn
  have hb' : ¬ fn.body = Option.none := fun h => by rw [h] at hb; cases hb
  subst hargs
  simp [execOp, hop, resolve, Act.eval, bind, pure, Sem.bind, Deferred.ofValue, invoke, callFunc, program, Sem.run, hf, hb', hn']
/-- the class of a world's extensions -/
abbrev Exts (w0 : World) : World → Prop := fun w' => ∃ d, w' = w0.ext d
/-- .. of a family of worlds -/
abbrev Extz (Wf : Array Value → World) : World → Prop := fun w' => ∃ z d, w' = (Wf z).ext d
theorem ql_call {R : Act → Prop} {a : Act} {l : List Oper} {o : Oper} {f : FuncId} {fn : Func} {xs : List Operand} {args : List Value} {ats : Array TypeId} {v : Value}
    (hc : ∀ d, Calls P f args.toArray (w0.ext d) fun e w' => e = .returned v ∧ Ext (w0.ext d) w') (hop : o.op = .call { callee := .value (.func f), args := xs.toArray, argTypes := ats }) (hargs : xs.map a.eval = args)
    (hf : P.funcs[f]? = some fn) (hb : fn.body.isNone = false) (hn : (fn.name == "runtime.NumGoroutine") = false) (hw : Region.wanted o (yielded ops a.tmps) = true)
    (h : ∀ K : Act → Prop, (∀ a, QL P ops (fun w' => ∃ d, w' = w0.ext d) R l a → K a) → K (a.put o.dst v)) : QL P ops (fun w' => ∃ d, w' = w0.ext d) R (o :: l) a :=
  ql_gives hw (fun w ⟨d, hd⟩ => by subst hd; rw [run_call_func hop hargs hf hb hn]; exact ⟨rfl, hc d⟩) (h _ fun _ h => h)
theorem ql_callz {Wf : Array Value → World} {R : Act → Prop} {a : Act} {l : List Oper} {o : Oper} {f : FuncId} {fn : Func} {xs : List Operand} {args : List Value} {ats : Array TypeId} {v : Value}
    (hc : ∀ z d, Calls P f args.toArray ((Wf z).ext d) fun e w' => e = .returned v ∧ Ext ((Wf z).ext d) w') (hop : o.op = .call { callee := .value (.func f), args := xs.toArray, argTypes := ats }) (hargs : xs.map a.eval = args)
    (hf : P.funcs[f]? = some fn) (hb : fn.body.isNone = false) (hn : (fn.name == "runtime.NumGoroutine") = false) (hw : Region.wanted o (yielded ops a.tmps) = true)
    (h : ∀ K : Act → Prop, (∀ a, QL P ops (fun w' => ∃ z d, w' = (Wf z).ext d) R l a → K a) → K (a.put o.dst v)) : QL P ops (fun w' => ∃ z d, w' = (Wf z).ext d) R (o :: l) a :=
  ql_gives hw (fun w ⟨z, d, hd⟩ => by subst hd; rw [run_call_func hop hargs hf hb hn]; exact ⟨rfl, hc z d⟩) (h _ fun _ h => h)
/-! the makers -/
/-- a new block, and a pointer to its head -/
def NewPtr (O : Obj) (u : Value) : Facts := fun w => ∃ b, u = .pointer (some ⟨b, 0, .none⟩) ∧ w.heap[b]? = some O
/-- a new block, and a slice over all of it -/
def NewSl (O : Obj) (n : Nat) (u : Value) : Facts := fun w => ∃ b, u = .slice (some ⟨b, 0, .none⟩) n n ∧ w.heap[b]? = some O
theorem heap_some_ext {w w' : World} {b : Nat} {O : Obj} (h : w.heap[b]? = some O) (he : Ext w w') : w'.heap[b]? = some O := by
  obtain ⟨d, rfl⟩ := he
  rw [World.heap_ext w d b (Array.getElem?_eq_some_iff.1 h).1]; exact h
theorem stable_ptr (O : Obj) : Stable (NewPtr O) := fun _ _ _ ⟨b, h1, h2⟩ he => ⟨b, h1, heap_some_ext h2 he⟩
theorem stable_sl (O : Obj) (n : Nat) : Stable (NewSl O n) := fun _ _ _ ⟨b, h1, h2⟩ he => ⟨b, h1, heap_some_ext h2 he⟩
theorem stableM_none {Φ : Value → Facts} : StableM n0 (fun _ _ => False) Φ := fun _ _ _ _ _ h => h.elim
/-- the writer's move: the family's parameter turns, nothing else -/
def Mvz (Wf : Array Value → World) (w w' : World) : Prop := ∃ z z' d, w = (Wf z).ext d ∧ w' = (Wf z').ext d
theorem heap_mvz {Wf : Array Value → World} (hsz : ∀ z, (Wf z).heap.size = n0) {w w' : World} (h : Mvz Wf w w') {b : Nat} (hb : n0 ≤ b) : w'.heap[b]? = w.heap[b]? := by
  obtain ⟨z, z', d, rfl, rfl⟩ := h
  show ((Wf z').heap ++ d.objs)[b]? = ((Wf z).heap ++ d.objs)[b]?
  rw [Array.getElem?_append, Array.getElem?_append, hsz, hsz, if_neg (by omega), if_neg (by omega)]
theorem stableM_ptr {Wf : Array Value → World} (hsz : ∀ z, (Wf z).heap.size = n0) (O : Obj) : StableM n0 (Mvz Wf) (NewPtr O) := fun _ _ _ ⟨b, h1, h2⟩ hf hm => ⟨b, h1, by rw [heap_mvz hsz hm (hf b (by rw [h1]; rfl))]; exact h2⟩
theorem stableM_sl {Wf : Array Value → World} (hsz : ∀ z, (Wf z).heap.size = n0) (O : Obj) (n : Nat) : StableM n0 (Mvz Wf) (NewSl O n) := fun _ _ _ ⟨b, h1, h2⟩ hf hm => ⟨b, h1, by rw [heap_mvz hsz hm (hf b (by rw [h1]; rfl))]; exact h2⟩
theorem makes_ptr {o : Oper} {a : Act} {w : World} (O : Obj) (hrun : (execOp a.eval o).run P w = .ok (.value (.pointer (some ⟨w.heap.size, 0, .none⟩))) (w.alloc O)) : Oper.makesUpon P w (NewPtr O) ((execOp a.eval o).run P w) := by
  rw [hrun]
  refine ⟨Ext.alloc (Ext.refl _) O, ⟨_, rfl, heap_alloc_new _ _⟩, fun b hb => ?_⟩
  simp only [Value.blk, Option.some.injEq] at hb
  subst hb
  rw [World.size_alloc]; omega
theorem makes_sl {o : Oper} {a : Act} {w : World} (O : Obj) (n : Nat) (hrun : (execOp a.eval o).run P w = .ok (.value (.slice (some ⟨w.heap.size, 0, .none⟩) n n)) (w.alloc O)) : Oper.makesUpon P w (NewSl O n) ((execOp a.eval o).run P w) := by
  rw [hrun]
  refine ⟨Ext.alloc (Ext.refl _) O, ⟨_, rfl, heap_alloc_new _ _⟩, fun b hb => ?_⟩
  simp only [Value.blk, Option.some.injEq] at hb
  subst hb
  rw [World.size_alloc]; omega
abbrev NoMv : World → World → Prop := fun _ _ => False
theorem mk_ptr {a : Act} {i : Nat} {o : Oper} (O : Obj) (ho : ops[i]? = some o) (hw : Region.wanted o (yielded ops a.tmps) = true)
    (hrun : ∀ d, (execOp a.eval o).run P (w0.ext d) = .ok (.value (.pointer (some ⟨(w0.ext d).heap.size, 0, .none⟩))) ((w0.ext d).alloc O)) : Mk P ops (fun w' => ∃ d, w' = w0.ext d) n0 NoMv a (i, NewPtr O) :=
  ⟨o, ho, hw, stable_ptr O, stableM_none, fun w ⟨d, hd⟩ => by subst hd; exact makes_ptr O (hrun d)⟩
theorem mk_sl {a : Act} {i : Nat} {o : Oper} (O : Obj) (n : Nat) (ho : ops[i]? = some o) (hw : Region.wanted o (yielded ops a.tmps) = true)
    (hrun : ∀ d, (execOp a.eval o).run P (w0.ext d) = .ok (.value (.slice (some ⟨(w0.ext d).heap.size, 0, .none⟩) n n)) ((w0.ext d).alloc O)) : Mk P ops (fun w' => ∃ d, w' = w0.ext d) n0 NoMv a (i, NewSl O n) :=
  ⟨o, ho, hw, stable_sl O n, stableM_none, fun w ⟨d, hd⟩ => by subst hd; exact makes_sl O n (hrun d)⟩
theorem mkz_sl {Wf : Array Value → World} {a : Act} {i : Nat} {o : Oper} (O : Obj) (n : Nat) (hsz : ∀ z, (Wf z).heap.size = n0) (ho : ops[i]? = some o) (hw : Region.wanted o (yielded ops a.tmps) = true)
    (hrun : ∀ z d, (execOp a.eval o).run P ((Wf z).ext d) = .ok (.value (.slice (some ⟨((Wf z).ext d).heap.size, 0, .none⟩) n n)) (((Wf z).ext d).alloc O)) : Mk P ops (fun w' => ∃ z d, w' = (Wf z).ext d) n0 (Mvz Wf) a (i, NewSl O n) :=
  ⟨o, ho, hw, stable_sl O n, stableM_sl hsz O n, fun w ⟨z, d, hd⟩ => by subst hd; exact makes_sl O n (hrun z d)⟩
/-- a call that hands back something new -/
theorem mk_call {a : Act} {i : Nat} {o : Oper} {f : FuncId} {fn : Func} {xs : List Operand} {args : List Value} {ats : Array TypeId} {Φ : Value → Facts} (hst : Stable Φ)
    (hc : ∀ d, Calls P f args.toArray (w0.ext d) fun e w' => ∃ u, e = .returned u ∧ Ext (w0.ext d) w' ∧ Φ u w' ∧ ∀ b, u.blk = some b → (w0.ext d).heap.size ≤ b ∧ b < w'.heap.size)
    (ho : ops[i]? = some o) (hop : o.op = .call { callee := .value (.func f), args := xs.toArray, argTypes := ats }) (hargs : xs.map a.eval = args)
    (hf : P.funcs[f]? = some fn) (hb : fn.body.isNone = false) (hn : (fn.name == "runtime.NumGoroutine") = false) (hw : Region.wanted o (yielded ops a.tmps) = true) : Mk P ops (fun w' => ∃ d, w' = w0.ext d) n0 NoMv a (i, Φ) :=
  ⟨o, ho, hw, hst, stableM_none, fun w ⟨d, hd⟩ => by subst hd; rw [run_call_func hop hargs hf hb hn]; exact ⟨rfl, hc d⟩⟩
theorem mw0 {T : Act → Facts → Prop} {F : Facts} {B : Blks} {a : Act} (h : T a F) : MW P ops C n0 Mv T [] F B a := ⟨[], rfl, (fun _ h => by cases h), h⟩
theorem mw1 {T : Act → Facts → Prop} {F : Facts} {B : Blks} {a : Act} {i : Nat} {Φ : Value → Facts} (hk : Mk P ops C n0 Mv a (i, Φ))
    (h : ∀ u, (∀ b, u.blk = some b → n0 ≤ b) → ∀ K : Act → Prop, (∀ a, T a (fun w => F w ∧ Φ u w) → K a) → K (a.put ((ops[i]?).bind (·.dst)) u)) : MW P ops C n0 Mv T [i] F B a :=
  ⟨[(i, Φ)], rfl, fun p hp => by obtain rfl : p = (i, Φ) := by simpa using hp
                                 exact hk, fun u hu => h u (fun b hb => (hu b hb).1) _ fun _ h => h⟩
theorem mw2 {T : Act → Facts → Prop} {F : Facts} {B : Blks} {a : Act} {i j : Nat} {Φ Ψ : Value → Facts} (hk : Mk P ops C n0 Mv a (i, Φ)) (hk' : Mk P ops C n0 Mv a (j, Ψ))
    (h : ∀ u v, (∀ b, u.blk = some b → n0 ≤ b) → (∀ b, v.blk = some b → n0 ≤ b) → (∀ b, v.blk = some b → ¬ u.blk = some b) → ∀ K : Act → Prop, (∀ a, T a (fun w => (F w ∧ Φ u w) ∧ Ψ v w) → K a) →
      K ((a.put ((ops[i]?).bind (·.dst)) u).put ((ops[j]?).bind (·.dst)) v)) : MW P ops C n0 Mv T [i, j] F B a :=
  ⟨[(i, Φ), (j, Ψ)], rfl, fun p hp => by
    simp only [List.mem_cons, List.not_mem_nil, or_false] at hp
    rcases hp with rfl | rfl
    · exact hk
    · exact hk', fun u hu v hv => h u v (fun b hb => (hu b hb).1) (fun b hb => (hv b hb).1) (fun b hb h2 => (hv b hb).2 (.inr h2)) _ fun _ h => h⟩
/-- the writer: a store into the family's parameter -/
theorem wo1 {Wf : Array Value → World} {z0 z1 : Array Value} {j : Nat} {o : Oper} {a : Act} (hsz : ∀ z, (Wf z).heap.size = n0) (ho : ops[j]? = some o) (hd : o.dst = none) (hw : Region.wanted o (yielded ops a.tmps) = true)
    (hrun : ∀ d, (execOp a.eval o).run P ((Wf z0).ext d) = .ok .skip ((Wf z1).ext d)) : WO P ops (fun w => ∃ d, w = (Wf z0).ext d) (fun w => ∃ d, w = (Wf z1).ext d) (Mvz Wf) [j] a := fun k hk => by
  obtain rfl : k = j := by simpa using hk
  exact ⟨o, ho, hd, hw, fun w ⟨d, hd⟩ => ⟨_, by rw [hd]; exact hrun d, ⟨d, rfl⟩, ⟨z0, z1, d, hd, rfl⟩, by rw [hd]; simp [hsz]⟩⟩
/-! the tail -/
theorem wpOps_list : ∀ {τ : List Nat} {lt : List Oper} {a : Act} {w : World}, τ.map (ops[·]?) = lt.map some → wpList P ops Q lt a w → wpOps P ops Q τ a w
  | [], [], _, _, _, h => h
  | [], _ :: _, _, _, h, _ => by cases h
  | _ :: _, [], _, _, h, _ => by cases h
  | i :: τ, o :: lt, a, w, hm, h => by
    simp only [List.map_cons, List.cons.injEq] at hm
    have ih : ∀ a w, wpList P ops Q lt a w → wpOps P ops Q τ a w := fun a w h => wpOps_list hm.2 h
    rw [wpOps_cons]
    unfold wpOp
    simp only [hm.1]
    unfold wpList at h
    by_cases hw : Region.wanted o (yielded ops a.tmps) = true
    · rw [if_pos hw] at h ⊢
      exact h.imp (Oper.wp_mono ih) id
    · rw [if_neg hw] at h ⊢
      exact ih _ _ h
/-- the late pure ones, the operations themselves -/
def PL (P : Program) (ops : Array Oper) (R : Act → Prop) : List Oper → Act → Prop
  | [], a => R a
  | o :: l, a => ∃ v, Yields P ops o v a ∧ PL P ops R l (a.put o.dst v)
theorem pl_pw {R : Act → Prop} : ∀ {l : List Nat} {a : Act}, (∀ i, i ∈ l → i < ops.size) → PL P ops R (l.filterMap (ops[·]?)) a → PW P ops R l a
  | [], _, _, h => h
  | i :: l, a, hlt, h => by
    have hi : ops[i]? = some (ops[i]'(hlt i (List.mem_cons_self ..))) := by simp [hlt i (List.mem_cons_self ..)]
    rw [List.filterMap_cons, hi] at h
    obtain ⟨v, hg, hh⟩ := h
    exact ⟨_, hi, v, hg, pl_pw (fun k hk => hlt k (List.mem_cons_of_mem _ hk)) hh⟩
theorem PL.mono {R R' : Act → Prop} (h : ∀ a, R a → R' a) : ∀ {l : List Oper} {a : Act}, PL P ops R l a → PL P ops R' l a
  | [], _, hh => h _ hh
  | _ :: _, _, ⟨v, hg, hh⟩ => ⟨v, hg, PL.mono h hh⟩
theorem pl_nil {R : Act → Prop} {a : Act} (h : R a) : PL P ops R [] a := h
theorem pl_plain {R : Act → Prop} {a : Act} {l : List Oper} {o : Oper} (hp : (o.op.plainly || o.op.builtinly) = true) (hw : Region.wanted o (yielded ops a.tmps) = true)
    (h : ∀ K : Act → Prop, (∀ a, PL P ops R l a → K a) → o.quiet P a (fun _ => True) K) : PL P ops R (o :: l) a := by
  obtain ⟨v, h1, h2⟩ := h _ fun _ h => h
  refine ⟨v, .inl ⟨hw, fun w => ?_⟩, h2⟩
  have h3 := h1 w trivial
  unfold Oper.quietAt at h3
  cases hr : (execOp a.eval o).run P w with
  | ok n w' =>
    rw [hr] at h3
    have hv : ∃ u, n = .value u := by
      rcases Bool.or_eq_true _ _ |>.mp hp with hp | hp
      · exact plainly_value hp hr
      · exact builtinly_value hp hr
    obtain ⟨u, rfl⟩ := hv
    obtain ⟨rfl, rfl⟩ := h3
    rfl
  | halt x w' => rw [hr] at h3; exact h3.elim
theorem pl_nilCheck {R : Act → Prop} {a : Act} {l : List Oper} {o : Oper} {x : Operand} {p : Addr} (hop : o.op = .nilCheck x) (hx : a.eval x = .pointer (some p)) (hw : Region.wanted o (yielded ops a.tmps) = true)
    (h : ∀ K : Act → Prop, (∀ a, PL P ops R l a → K a) → K (a.put o.dst (.pointer (some p)))) : PL P ops R (o :: l) a :=
  ⟨.pointer (some p), .inl ⟨hw, fun w => by simp [execOp, hop, hx, pure]⟩, h _ fun _ h => h⟩
theorem only_normal {a : Act} {w : World} (h : Q .normal a w) : only Q .normal a w := h
/-- where a new block lies: it parts what came behind the old world -/
theorem Ext.split {w0 w : World} {b : Nat} {O : Obj} (h : Ext w0 w) (hb : w.heap[b]? = some O) (h0 : w0.heap.size ≤ b) : ∃ d e, b = w0.heap.size + d.size ∧ w = ((w0.ext d).alloc O).ext e := by
  obtain ⟨g, rfl⟩ := h
  have hlt : b < (w0.ext g).heap.size := (Array.getElem?_eq_some_iff.1 hb).1
  have hO : g.objs[b - w0.heap.size]? = some O := by
    have h1 : (w0.ext g).heap[b]? = (w0.heap ++ g.objs)[b]? := rfl
    rw [h1, Array.getElem?_append, if_neg (by omega)] at hb
    exact hb
  have hk : b - w0.heap.size < g.objs.size := (Array.getElem?_eq_some_iff.1 hO).1
  refine ⟨⟨g.objs.extract 0 (b - w0.heap.size), g.n⟩, ⟨g.objs.extract (b - w0.heap.size + 1) g.objs.size, g.n⟩, ?_, ?_⟩
  · simp only [Grow.size, Array.size_extract]; omega
  · have hobjs : g.objs = (g.objs.extract 0 (b - w0.heap.size)).push O ++ g.objs.extract (b - w0.heap.size + 1) g.objs.size := by
      apply Array.ext_getElem?
      intro k
      rw [Array.getElem?_append, Array.getElem?_push, Array.size_push, Array.size_extract]
      rcases Nat.lt_trichotomy k (b - w0.heap.size) with hlt | heq | hgt
      · rw [if_pos (by omega), if_neg (by omega), Array.getElem?_extract_of_lt (by omega)]; simp
      · subst heq
        rw [if_pos (by omega), if_pos (by omega)]; exact hO
      · rw [if_neg (by omega), Array.getElem?_extract]
        by_cases h2 : k < g.objs.size
        · rw [if_pos (by omega)]; congr 1; omega
        · rw [if_neg (by omega)]; exact Array.getElem?_eq_none (by omega)
    have e1 : (((w0.ext ⟨g.objs.extract 0 (b - w0.heap.size), g.n⟩).alloc O).ext ⟨g.objs.extract (b - w0.heap.size + 1) g.objs.size, g.n⟩) =
      ({ w0 with heap := (w0.heap ++ g.objs.extract 0 (b - w0.heap.size)).push O ++ g.objs.extract (b - w0.heap.size + 1) g.objs.size, drawn := g.n } : World) := rfl
    rw [e1]
    show ({ w0 with heap := w0.heap ++ g.objs, drawn := g.n } : World) = _
    rw [← Array.append_push, Array.append_assoc, ← hobjs]
theorem Ext.split1 {w0 w : World} {u : Value} {O : Obj} (h : Ext w0 w) (hu : NewPtr O u w) (h0 : ∀ b, u.blk = some b → w0.heap.size ≤ b) : ∃ d e, u = .pointer (some ⟨w0.heap.size + d.size, 0, .none⟩) ∧ w = ((w0.ext d).alloc O).ext e := by
  obtain ⟨b, rfl, hb⟩ := hu
  obtain ⟨d, e, rfl, hw⟩ := h.split hb (h0 b rfl)
  exact ⟨d, e, rfl, hw⟩
theorem Ext.split1s {w0 w : World} {u : Value} {O : Obj} {n : Nat} (h : Ext w0 w) (hu : NewSl O n u w) (h0 : ∀ b, u.blk = some b → w0.heap.size ≤ b) : ∃ d e, u = .slice (some ⟨w0.heap.size + d.size, 0, .none⟩) n n ∧ w = ((w0.ext d).alloc O).ext e := by
  obtain ⟨b, rfl, hb⟩ := hu
  obtain ⟨d, e, rfl, hw⟩ := h.split hb (h0 b rfl)
  exact ⟨d, e, rfl, hw⟩
/-- two new blocks: which came first is open -/
theorem Ext.split2 {w0 w : World} {u v : Value} {O O' : Obj} (h : Ext w0 w) (hu : NewPtr O u w) (hv : NewPtr O' v w) (h0 : ∀ b, u.blk = some b → w0.heap.size ≤ b) (h1 : ∀ b, v.blk = some b → w0.heap.size ≤ b) (hne : ∀ b, v.blk = some b → ¬ u.blk = some b) :
    (∃ d e f, u = .pointer (some ⟨w0.heap.size + d.size, 0, .none⟩) ∧ v = .pointer (some ⟨w0.heap.size + d.size + 1 + e.size, 0, .none⟩) ∧ w = ((((w0.ext d).alloc O).ext e).alloc O').ext f) ∨
    (∃ d e f, v = .pointer (some ⟨w0.heap.size + d.size, 0, .none⟩) ∧ u = .pointer (some ⟨w0.heap.size + d.size + 1 + e.size, 0, .none⟩) ∧ w = ((((w0.ext d).alloc O').ext e).alloc O).ext f) := by
  obtain ⟨b, rfl, hb⟩ := hu
  obtain ⟨c, rfl, hc⟩ := hv
  have hbc : c ≠ b := fun e => hne c rfl (by rw [e]; rfl)
  obtain ⟨d, e, rfl, rfl⟩ := h.split hb (h0 b rfl)
  rcases Nat.lt_or_gt_of_ne hbc with hlt | hgt
  · have hc' : (w0.ext d).heap[c]? = some O' := by
      rw [World.heap_ext _ _ _ (by simp; omega)] at hc
      rw [← hc]; exact (heap_alloc_old _ _ (by simp; omega)).symm
    obtain ⟨d1, e1, rfl, hw⟩ := Ext.split (w := w0.ext d) ⟨d, rfl⟩ hc' (h1 c rfl)
    have hsz : w0.heap.size + d.size = w0.heap.size + d1.size + 1 + e1.size := by
      have := congrArg (fun w => w.heap.size) hw; simpa using this
    exact .inr ⟨d1, e1, e, rfl, by rw [hsz], by rw [hw]⟩
  · obtain ⟨d1, e1, hcc, hw⟩ := Ext.split (w0 := (w0.ext d).alloc O) ⟨e, rfl⟩ hc (by simp; omega)
    refine .inl ⟨d, d1, e1, rfl, ?_, hw⟩
    rw [hcc]; simp
/-- THE RULE, over the operations themselves: 'qo', 'po', 'lo' are computed from the places -/
theorem wp_region_calm_l {id : Nat} {a : Act} {w : World} {l : List Oper} (lw lq lm lp τ : List Nat) {qo po lo : List Oper} (hm : P.follows .mixedOrders = true) (hB : calmOk l.toArray lw lq lm lp τ = true)
    (hq : lq.filterMap (l.toArray[·]?) = qo) (hp : lp.filterMap (l.toArray[·]?) = po) (hl : τ.filterMap (l.toArray[·]?) = lo)
    (hCI : ∀ w, I w → C w) (hCD : ∀ w, D w → C w) (hIx : ∀ w w', I w → Ext w w' → I w') (hDx : ∀ w w', D w → Ext w w' → D w') (hl1 : lw.length ≤ 1) (hI0 : lw ≠ [] → I w.drew) (hD0 : lw = [] → D w.drew) (hn0 : n0 ≤ w.heap.size)
    (h : QL P l.toArray C (fun a' => WO P l.toArray I D Mv lw a' ∧ MW P l.toArray C n0 Mv (fun a F => PL P l.toArray (fun a3 => ∀ w', D w' → F w' → wpList P l.toArray (only Q) lo a3 w') po a) lm (fun _ => True) (fun _ => False) a') qo a) : (Code.region id l.toArray true).wp P Q a w := by
  have hlt : ∀ i, i ∈ lq ++ lm ++ lw ++ lp ++ τ → i < l.toArray.size := fun i hi => by
    simp only [calmOk, Bool.and_eq_true] at hB
    obtain ⟨⟨⟨⟨⟨⟨⟨⟨_, b2⟩, _⟩, _⟩, _⟩, _⟩, _⟩, _⟩, _⟩ := hB
    have := List.all_eq_true.1 b2 i hi; simp only [Bool.and_eq_true, decide_eq_true_eq] at this; exact this.1
  refine wp_region_calm_gen (Mv := Mv) lw lq lm lp τ hm hB hCI hCD hIx hDx hl1 hI0 hD0 hn0 ?_
  subst hq hp hl
  refine ql_qw (l := lq) (fun i hi => hlt i (by simp [hi])) ?_
  have hτ : τ.map (l.toArray[·]?) = (τ.filterMap (l.toArray[·]?)).map some := by
    have : ∀ τ : List Nat, (∀ i, i ∈ τ → i < l.toArray.size) → τ.map (l.toArray[·]?) = (τ.filterMap (l.toArray[·]?)).map some := by
      intro τ
      induction τ with
      | nil => intro _; rfl
      | cons i τ ih =>
        intro hlt
        have hi : l.toArray[i]? = some (l.toArray[i]'(hlt i (List.mem_cons_self ..))) := Array.getElem?_eq_getElem _
        rw [List.map_cons, List.filterMap_cons, hi, ih (fun k hk => hlt k (List.mem_cons_of_mem _ hk))]
        rfl
    exact this τ (fun i hi => hlt i (by simp [hi]))
  have key : ∀ (qo : List Oper) (a : Act) (R R' : Act → Prop), (∀ a, R a → R' a) → QL P l.toArray C R qo a → QL P l.toArray C R' qo a := by
    intro qo
    induction qo with
    | nil => intro a R R' hr h; exact hr _ h
    | cons o qo ih => intro a R R' hr ⟨v, hg, hh⟩; exact ⟨v, hg, ih _ R R' hr hh⟩
  refine key _ _ _ _ (fun a' ⟨h0, M, h1, h2, h3⟩ => ⟨h0, M, h1, h2, MU.mono (fun a F h => ?_) h3⟩) h
  exact PW.mono (fun a3 h3 w' hw hF => wpOps_list hτ (h3 w' hw hF)) (pl_pw (fun i hi => hlt i (by simp [hi])) h)
theorem wp_region_calm_ops {id : Nat} {a : Act} {w : World} {l : List Oper} (lq lm lp τ : List Nat) {qo po lo : List Oper} (hm : P.follows .mixedOrders = true) (hB : calmOk l.toArray [] lq lm lp τ = true)
    (hq : lq.filterMap (l.toArray[·]?) = qo) (hp : lp.filterMap (l.toArray[·]?) = po) (hl : τ.filterMap (l.toArray[·]?) = lo)
    (h : QL P l.toArray (fun w' => ∃ d, w' = w.ext d) (fun a' => MW P l.toArray (fun w' => ∃ d, w' = w.ext d) w.heap.size NoMv (fun a F => PL P l.toArray (fun a3 => ∀ w', Ext w w' → F w' → wpList P l.toArray (only Q) lo a3 w') po a) lm (fun _ => True) (fun _ => False) a') qo a) : (Code.region id l.toArray true).wp P Q a w := by
  refine wp_region_calm_l (I := fun _ => False) (D := fun w' => ∃ d, w' = w.ext d) (C := fun w' => ∃ d, w' = w.ext d) (n0 := w.heap.size) (Mv := NoMv) [] lq lm lp τ hm hB hq hp hl (fun _ h => h.elim) (fun _ h => h) (fun _ _ h => h.elim) (fun a b h h' => Ext.trans h h') (by simp) (fun h => absurd rfl h) (fun _ => ⟨w.grow1, World.drew_is_ext w⟩) (Nat.le_refl _) ?_
  have key : ∀ (qo : List Oper) (a : Act) (R R' : Act → Prop), (∀ a, R a → R' a) → QL P l.toArray (fun w' => ∃ d, w' = w.ext d) R qo a → QL P l.toArray (fun w' => ∃ d, w' = w.ext d) R' qo a := by
    intro qo
    induction qo with
    | nil => intro a R R' hr h; exact hr _ h
    | cons o qo ih => intro a R R' hr ⟨v, hg, hh⟩; exact ⟨v, hg, ih _ R R' hr hh⟩
  exact key _ _ _ _ (fun a' h' => ⟨(fun j hj => by cases hj), h'⟩) h
/-- with one writer: a store into a block (the family's parameter) that nothing else of the region reads -/
theorem wp_region_calm_z (Wf : Array Value → World) {id : Nat} {a : Act} {z0 : Array Value} {l : List Oper} (j : Nat) (lq lm lp τ : List Nat) {qo po lo : List Oper} (z1 : Array Value) (hm : P.follows .mixedOrders = true) (hB : calmOk l.toArray [j] lq lm lp τ = true)
    (hq : lq.filterMap (l.toArray[·]?) = qo) (hp : lp.filterMap (l.toArray[·]?) = po) (hl : τ.filterMap (l.toArray[·]?) = lo) (hsz : ∀ z, (Wf z).heap.size = (Wf z0).heap.size)
    (h : QL P l.toArray (fun w' => ∃ z d, w' = (Wf z).ext d) (fun a' => WO P l.toArray (fun w => ∃ d, w = (Wf z0).ext d) (fun w => ∃ d, w = (Wf z1).ext d) (Mvz Wf) [j] a' ∧
      MW P l.toArray (fun w' => ∃ z d, w' = (Wf z).ext d) (Wf z0).heap.size (Mvz Wf) (fun a F => PL P l.toArray (fun a3 => ∀ w', (∃ d, w' = (Wf z1).ext d) → F w' → wpList P l.toArray (only Q) lo a3 w') po a) lm (fun _ => True) (fun _ => False) a') qo a) : (Code.region id l.toArray true).wp P Q a (Wf z0) :=
  wp_region_calm_l (I := fun w => ∃ d, w = (Wf z0).ext d) (D := fun w => ∃ d, w = (Wf z1).ext d) (C := fun w' => ∃ z d, w' = (Wf z).ext d) [j] lq lm lp τ hm hB hq hp hl (fun _ ⟨d, h⟩ => ⟨z0, d, h⟩) (fun _ ⟨d, h⟩ => ⟨z1, d, h⟩) (fun a b h h' => Ext.trans (a := Wf z0) h h') (fun a b h h' => Ext.trans (a := Wf z1) h h') (by simp) (fun _ => ⟨(Wf z0).grow1, World.drew_is_ext _⟩) (fun h => by cases h) (Nat.le_refl _) h
end
end Go
namespace Go
open Go.RowKit
section
variable {P : Program}
theorem Ext.of_grown {w w0 w' : World} {row : Option Nat} (h : Ext w w0) (hg : w0.grownBy w' row) (hr : ∀ k, row = some k → w.heap.size ≤ k) : Ext w w' :=
  Ext.of_below (h.below.grown hg h.size hr)
/-- what is owned and isn't nil lies at the head of a block -/
theorem ownsRow_some {w : World} {base : Nat} {e : TypeId} {size : Nat} {v : Value} {n : Nat} {xs : List Value} (h : w.ownsRow base e size v n xs) (hn : ¬ v = .slice none 0 0) : ∃ g c, v = .slice (some ⟨g, 0, none⟩) n c := by
  rcases h.2 with ⟨rfl, _⟩ | ⟨g, cap, cur, rfl, _⟩
  · exact absurd rfl hn
  · exact ⟨g, cap, rfl⟩
theorem ownsRow_pos {w : World} {base : Nat} {e : TypeId} {size : Nat} {v : Value} {n : Nat} {xs : List Value} (h : w.ownsRow base e size v n xs) (hn : 0 < n) : ∃ g c, v = .slice (some ⟨g, 0, none⟩) n c := by
  rcases h.2 with ⟨rfl, h0⟩ | ⟨g, cap, cur, rfl, _⟩
  · omega
  · exact ⟨g, cap, rfl⟩
theorem ownsRow_ext {w w' : World} {base : Nat} {e : TypeId} {size : Nat} {v : Value} {n : Nat} {xs : List Value} (h : w.ownsRow base e size v n xs) (he : Ext w w') : w'.ownsRow base e size v n xs := by
  refine ⟨h.1, ?_⟩
  rcases h.2 with h2 | ⟨g, cap, cur, hv, hb, hg, r⟩
  · exact .inl h2
  · exact .inr ⟨g, cap, cur, hv, hb, heap_some_ext hg he, r⟩
/-- 'append(S{}, s...)' right behind the empty literal: a new row with s's cells -/
theorem wpList_append_copy (w : World) {ops : Array Oper} {rest : List Oper} {o : Oper} {a : Act} {Q : Exit → Act → World → Prop} (s x : Operand) (t : TypeId)
    (e : TypeId) (z : Value) (size bytes : Nat) (hinfo : (P.info? e).map (fun i => (i.zero, i.size, i.bytes)) = some (some z, size, bytes)) (ht : P.underlying t = some (.slice e)) (hzs : z.cells.size = size) (hsz : 0 < size)
    (ad : Addr) (m c : Nat) (news : List Value) (hl : news.length = m * size) (hnews : ∀ j u, news[j]? = some u → w.cell? (ad.add j) = some u) (hlt : ad.block < w.heap.size) (h1 : ∀ u ∈ news, u.oneCell' = true)
    (h63 : m ≤ maxLen) (hbytes : m * bytes ≤ 140737488355328)
    (hgd : o.guard = none) (ho : o.op = .call { callee := .builtin .append, args := #[s, x], argTypes := #[t, t] }) (hs : a.eval s = .slice (some ⟨w.heap.size, 0, none⟩) 0 0) (hx : a.eval x = .slice (some ad) m c)
    (h : ∀ g c' w', w'.ownsRow w.heap.size e size (.slice (some ⟨g, 0, none⟩) m c') m news → Ext w w' → wpList P ops Q rest (a.put o.dst (.slice (some ⟨g, 0, none⟩) m c')) w') : wpList P ops Q (o :: rest) a (w.alloc (.cells #[] e)) := by
  obtain ⟨i, hi, hz, hi1, hi2⟩ := info_parts hinfo
  have hnews' : ∀ j u, news[j]? = some u → (w.alloc (.cells #[] e)).cell? (ad.add j) = some u := fun j u hu => by
    have hb : (ad.add j).block = ad.block := by unfold Addr.add; split <;> rfl
    rw [World.cell?_alloc_lt _ _ _ (by rw [hb]; exact hlt)]; exact hnews j u hu
  refine wpList_append_own (w := w.alloc (.cells #[] e)) hgd s x t ho w.heap.size e i z size bytes ht hi hz hi1 hi2 hzs hsz _ 0 [] hs (World.ownsRow_made w #[] 0 (Nat.le_refl _) (by decide) (by simp)) ad m c news hx hl hnews' h1
    (by omega) (by simpa using hbytes) (by simp) ?_
  intro v' w' hown hg hnil
  obtain ⟨g, c', rfl⟩ := ownsRow_some hown (fun hv => by have := hnil.1 hv; cases this.1)
  rw [List.nil_append, Nat.zero_add] at hown
  rw [Nat.zero_add]
  refine h g c' w' ?_ ?_
  · exact hown
  · exact Ext.of_grown (Ext.alloc (Ext.refl w) _) hg (fun k hk => by simp [Value.ownBlock] at hk; omega)
/-- alike but for the blocks of S -/
structure Like (S : Nat → Prop) (X Y : World) : Prop where
  size : Y.heap.size = X.heap.size
  heap : ∀ k, ¬ S k → Y.heap[k]? = X.heap[k]?
theorem Like.refl (S : Nat → Prop) (X : World) : Like S X X := ⟨rfl, fun _ _ => rfl⟩
theorem Like.swap {S : Nat → Prop} {X Y : World} (h : Like S X Y) (hs : S X.heap.size) (O O' : Obj) : Like S (X.alloc O) (Y.alloc O') :=
  ⟨by simp [h.size], fun k hk => by
    show (Y.heap.push O')[k]? = (X.heap.push O)[k]?
    have hne : k ≠ X.heap.size := fun e => hk (e ▸ hs)
    rw [Array.getElem?_push, Array.getElem?_push, h.size, if_neg hne, if_neg hne]
    exact h.heap k hk⟩
theorem Like.ext {S : Nat → Prop} {X Y : World} (h : Like S X Y) (d : Grow) : Like S (X.ext d) (Y.ext d) :=
  ⟨by simp [h.size], fun k hk => by
    show (Y.heap ++ d.objs)[k]? = (X.heap ++ d.objs)[k]?
    rw [Array.getElem?_append, Array.getElem?_append, h.size, h.heap k hk]⟩
theorem Like.alloc {S : Nat → Prop} {X Y : World} (h : Like S X Y) (O : Obj) : Like S (X.alloc O) (Y.alloc O) :=
  ⟨by simp [h.size], fun k hk => by
    show (Y.heap.push O)[k]? = (X.heap.push O)[k]?
    rw [Array.getElem?_push, Array.getElem?_push, h.size, h.heap k hk]⟩
theorem Like.trans {S : Nat → Prop} {X Y Z : World} (h : Like S X Y) (h' : Like S Y Z) : Like S X Z :=
  ⟨h'.size.trans h.size, fun k hk => (h'.heap k hk).trans (h.heap k hk)⟩
theorem Like.setCell {S : Nat → Prop} {X Y : World} (h : Like S X Y) {a : Addr} (ha : S a.block) (v : Value) : Like S X (Y.setCell a v) :=
  h.trans ⟨by simp, fun k hk => by
    simp only [World.setCell, Array.getElem?_modify]
    rw [if_neg (fun e : a.block = k => hk (e ▸ ha))]⟩
theorem ownsRow_like {S : Nat → Prop} {X Y : World} {base : Nat} {e : TypeId} {size : Nat} {v : Value} {n : Nat} {xs : List Value} (h : X.ownsRow base e size v n xs) (hl : Like S X Y) (hne : ∀ b, v.ownBlock = some b → ¬ S b) : Y.ownsRow base e size v n xs := by
  refine ⟨h.1, ?_⟩
  rcases h.2 with h2 | ⟨g, cap, cur, rfl, hb, hg, r⟩
  · exact .inl h2
  · refine .inr ⟨g, cap, cur, rfl, hb, ?_, r⟩
    rw [hl.heap g (hne g rfl)]; exact hg
theorem own_ge {X : World} {base : Nat} {e : TypeId} {size n c g : Nat} {xs : List Value} (h : X.ownsRow base e size (.slice (some ⟨g, 0, none⟩) n c) n xs) : base ≤ g ∧ g < X.heap.size := h.lt g rfl
theorem own_ne {X : World} {base : Nat} {e e' : TypeId} {size n c g b : Nat} {xs : List Value} {cur : Array Value} {fr : Nat × Nat} (h : X.ownsRow base e size (.slice (some ⟨g, 0, none⟩) n c) n xs) (hb : X.heap[b]? = some (.cells cur e' fr)) (hne : e ≠ e') : g ≠ b := by
  rintro rfl
  rcases h.2 with ⟨h2, _⟩ | ⟨g', cap, cur', hv, _, hg, _⟩
  · cases h2
  · simp only [Value.slice.injEq, Option.some.injEq, Addr.mk.injEq, and_true, true_and] at hv
    obtain ⟨rfl, _⟩ := hv
    rw [hb] at hg
    simp only [Option.some.injEq, Obj.cells.injEq] at hg
    exact hne hg.2.1.symm
theorem heap_at (W : World) (d : Grow) (O : Obj) {Y : World} (h : Ext ((W.ext d).alloc O) Y) : Y.heap[W.heap.size + d.size]? = some O := by
  refine heap_some_ext ?_ h
  have := heap_alloc_new (W.ext d) O
  rwa [World.size_ext] at this
theorem own_join {W Y : World} {d : Grow} {cur : Array Value} {e : TypeId} {size n c B b : Nat} (h : Ext ((W.ext d).alloc (.cells cur e)) Y) (hb : W.heap.size + d.size = b) (hB : B ≤ b) (hs : cur.size = c * size) (hn : n ≤ c) (hm : c ≤ maxLen) {xs : List Value} (ht : cur.toList.take (n * size) = xs) :
    Y.ownsRow B e size (.slice (some ⟨b, 0, none⟩) n c) n xs := by
  subst hb
  exact ⟨by rw [← ht, List.length_take, Array.length_toList, hs]; exact Nat.min_eq_left (Nat.mul_le_mul_right _ hn), .inr ⟨_, c, cur, rfl, hB, heap_at W d _ h, hn, hm, hs, ht⟩⟩
end
end Go
namespace Go
inductive Knd | q | m | w
  deriving DecidableEq
/-- what is known of a new value at once -/
inductive Shp | any | sl (n c : Nat) | ptr | of (S : Value → Prop) (x : Value) (hx : S x) (hb : x.blk = .none)
def Shp.ok : Shp → Value → Prop
  | .any, _ => True
  | .sl n c, u => ∃ b, u = .slice (some ⟨b, 0, .none⟩) n c
  | .ptr, u => ∃ b, u = .pointer (some ⟨b, 0, .none⟩)
  | .of S _ _ _, u => S u
def Oper.shp0 (o : Oper) : Shp := match o.op with
  | .buildSlice _ n _ => .sl n n
  | .alloc _ => .ptr
  | .box .. => .ptr
  | _ => .any
def Shp.wit : Shp → Nat → Value
  | .any, _ => undef
  | .sl n c, b => .slice (some ⟨b, 0, .none⟩) n c
  | .ptr, b => .pointer (some ⟨b, 0, .none⟩)
  | .of _ x _ _, _ => x
theorem Shp.wit_ok : ∀ (s : Shp) (b : Nat), s.ok (s.wit b)
  | .any, _ => trivial
  | .sl _ _, b => ⟨b, rfl⟩
  | .ptr, b => ⟨b, rfl⟩
  | .of _ _ hx _, _ => hx
theorem Shp.wit_blk : ∀ (s : Shp) (b k : Nat), (s.wit b).blk = some k → k = b
  | .any, _, _, h => by cases h
  | .sl _ _, b, k, h => by simpa [Shp.wit, Value.blk] using h.symm
  | .ptr, b, k, h => by simpa [Shp.wit, Value.blk] using h.symm
  | .of _ _ _ hb, _, k, h => by simp only [Shp.wit] at h; rw [hb] at h; cases h
section
variable {P : Program} {ops : Array Oper} {C : World → Prop} {n0 : Nat} {Mv : World → World → Prop} {I D : World → Prop} {Q : Exit → Act → World → Prop} {Ψ : Nat → Option ((Value → Facts) × Shp)}
/-- what a plain maker made -/
def Made (P : Program) (C : World → Prop) (n0 : Nat) (Mv : World → World → Prop) (s : Sem Next) (u : Value) : Facts := fun w =>
  ∀ Φ : Value → Facts, Stable Φ → StableM n0 Mv Φ → (∀ w, C w → ∃ u w', s.run P w = .ok (.value u) w' ∧ Φ u w') → Φ u w
def fact (P : Program) (C : World → Prop) (n0 : Nat) (Mv : World → World → Prop) (Ψ : Nat → Option ((Value → Facts) × Shp)) (i : Nat) (o : Oper) (a : Act) : Value → Facts :=
  match Ψ i with
  | some Φ => Φ.1
  | none => Made P C n0 Mv (execOp a.eval o)
theorem fact_put {i : Nat} {o x : Oper} {a : Act} {u : Value} (hs : ∀ cs b, o.op ≠ .select cs b) (h : ∀ d, x.dst = some d → d ∉ o.looksAt ops) : fact P C n0 Mv Ψ i o (a.put x.dst u) = fact P C n0 Mv Ψ i o a := by
  unfold fact; rw [execOp_put (ops := ops) o hs a x.dst u h]
def shpOf (Ψ : Nat → Option ((Value → Facts) × Shp)) (i : Nat) (o : Oper) : Shp := match Ψ i with
  | some Φ => Φ.2
  | none => o.shp0
/-- bounded -/
def Bnd (B : Blks) : Prop := ∃ N, ∀ b, B b → b < N
theorem Bnd.add {B : Blks} (h : Bnd B) (u : Value) : Bnd (fun b => B b ∨ u.blk = some b) := by
  obtain ⟨N, hN⟩ := h
  cases hu : u.blk with
  | none => exact ⟨N, fun b hb => hN b (hb.resolve_right fun h => by cases h)⟩
  | some k => exact ⟨max N (k + 1), fun b hb => by
      rcases hb with hb | hb
      · have := hN b hb; omega
      · obtain rfl : k = b := by simpa using hb
        omega⟩
/-- something new of a shape -/
theorem Bnd.wit {B : Blks} (h : Bnd B) (n0 : Nat) (s : Shp) : ∃ u, (∀ b, u.blk = some b → n0 ≤ b ∧ ¬ B b) ∧ s.ok u := by
  obtain ⟨N, hN⟩ := h
  refine ⟨s.wit (max n0 N), fun b hb => ?_, s.wit_ok _⟩
  obtain rfl := s.wit_blk _ _ hb
  exact ⟨by omega, fun hB => by have := hN _ hB; omega⟩
/-- the script -/
def SW (P : Program) (ops : Array Oper) (C : World → Prop) (n0 : Nat) (Mv : World → World → Prop) (I D : World → Prop) (Ψ : Nat → Option ((Value → Facts) × Shp)) (T : Act → Facts → Prop) : List (Knd × Nat) → Act → Facts → Blks → Prop
  | [], a, F, _ => T a F
  | (.q, i) :: l, a, F, B => ∃ o, ops[i]? = some o ∧ ∃ v, Gv P ops C o a v ∧ SW P ops C n0 Mv I D Ψ T l (a.put o.dst v) F B
  | (.w, i) :: l, a, F, B => WO P ops I D Mv [i] a ∧ SW P ops C n0 Mv I D Ψ T l a F B
  | (.m, i) :: l, a, F, B => ∃ o, ops[i]? = some o ∧ Mk P ops C n0 Mv a (i, fact P C n0 Mv Ψ i o a) ∧ (∀ u w, fact P C n0 Mv Ψ i o a u w → (shpOf Ψ i o).ok u) ∧ ∀ u, (∀ b, u.blk = some b → n0 ≤ b ∧ ¬ B b) → (shpOf Ψ i o).ok u → SW P ops C n0 Mv I D Ψ T l (a.put o.dst u) (fun w => F w ∧ fact P C n0 Mv Ψ i o a u w) (fun b => B b ∨ u.blk = some b)
/-- an operation that never enters a function -/
def Op.flat (o : Op) : Bool := o.plainly || o.builtinly
theorem flat_value {ρ : Operand → Value} {o : Oper} {w w' : World} {n : Next} (hb : o.op.flat = true) (h : (execOp ρ o).run P w = .ok n w') : ∃ u, n = .value u := by
  rcases Bool.or_eq_true _ _ |>.mp hb with hp | hp
  · exact plainly_value hp h
  · exact builtinly_value hp h
theorem Gv.inj {o : Oper} {a : Act} {v v' : Value} (hC : ∃ w, C w) (hp : o.op.flat = true) (h : Gv P ops C o a v) (h' : Gv P ops C o a v') : v = v' := by
  rcases h with ⟨h1, h2⟩ | ⟨h1, h2⟩ <;> rcases h' with ⟨k1, k2⟩ | ⟨k1, k2⟩
  · rw [h2, k2]
  · rw [h1] at k1; cases k1
  · rw [h1] at k1; cases k1
  · obtain ⟨w, hw⟩ := hC
    have x := h2 w hw
    have y := k2 w hw
    cases hr : (execOp a.eval o).run P w with
    | ok n w' =>
      obtain ⟨u, rfl⟩ := flat_value hp hr
      rw [hr] at x y
      exact x.2.symm.trans y.2
    | halt c w' => rw [hr] at x; exact x.elim
theorem SW.mono {T : Act → Facts → Prop} (hT : ∀ a (F F' : Facts), (∀ w, F' w → F w) → T a F → T a F') : ∀ {l : List (Knd × Nat)} {a : Act} {F F' : Facts} {B : Blks}, (∀ w, F' w → F w) → SW P ops C n0 Mv I D Ψ T l a F B → SW P ops C n0 Mv I D Ψ T l a F' B
  | [], _, _, _, _, hF, h => hT _ _ _ hF h
  | (.q, _) :: _, _, _, _, _, hF, ⟨o, ho, v, hg, h⟩ => ⟨o, ho, v, hg, SW.mono hT hF h⟩
  | (.w, _) :: _, _, _, _, _, hF, ⟨h0, h⟩ => ⟨h0, SW.mono hT hF h⟩
  | (.m, _) :: _, _, _, _, _, hF, ⟨o, ho, hk, hsh, h⟩ => ⟨o, ho, hk, hsh, fun u hu hs => SW.mono hT (fun w hw => ⟨hF w hw.1, hw.2⟩) (h u hu hs)⟩
theorem some_of_apart {i j : Nat} {oi : Oper} (hi : ops[i]? = some oi) (h : apartB ops j i = true) : ∃ o, ops[j]? = some o ∧ o.apart ops oi = true := by
  cases hp : ops[j]? with
  | none => simp [apartB, hp] at h
  | some x => exact ⟨x, rfl, apartB_spec hp hi h⟩
/-- a quiet one, pulled to the front -/
theorem SW.frontQ (hs : NoSel ops) (hC : ∃ w, C w) {T : Act → Facts → Prop} {i : Nat} {oi : Oper} (hi : ops[i]? = some oi) (l2 : List (Knd × Nat)) : ∀ (l1 : List (Knd × Nat)) (a : Act) (F : Facts) (B : Blks), Bnd B → (∀ p, p ∈ l1 → apartB ops p.2 i = true) → (oi.op.flat = true ∨ ∀ p, p ∈ l1 → p.1 ≠ .m) →
    SW P ops C n0 Mv I D Ψ T (l1 ++ (.q, i) :: l2) a F B → ∃ v, Gv P ops C oi a v ∧ SW P ops C n0 Mv I D Ψ T (l1 ++ l2) (a.put oi.dst v) F B
  | [], a, F, B, _, _, _, ⟨o, ho, v, hg, hh⟩ => by
    obtain rfl : oi = o := Option.some.inj (hi.symm.trans ho)
    exact ⟨v, hg, hh⟩
  | (.q, j) :: l1, a, F, B, hBN, hap, hfl, ⟨o, ho, v, hg, hh⟩ => by
    obtain ⟨v', hg', hh'⟩ := SW.frontQ hs hC hi l2 l1 _ F B hBN (fun k hk => hap k (List.mem_cons_of_mem _ hk)) (hfl.imp id fun h k hk => h k (List.mem_cons_of_mem _ hk)) hh
    obtain ⟨a1, a2, a3⟩ := Oper.apart_spec (apartB_spec ho hi (hap (.q, j) (List.mem_cons_self ..)))
    exact ⟨v', (Gv.put (fun cs b => hs i oi cs b hi) a1).1 hg', o, ho, v, (Gv.put (fun cs b => hs j o cs b ho) a3).2 hg, by rw [← Act.put_comm a v v' a2]; exact hh'⟩
  | (.w, j) :: l1, a, F, B, hBN, hap, hfl, ⟨h0, hh⟩ => by
    obtain ⟨v', hg', hh'⟩ := SW.frontQ hs hC hi l2 l1 _ F B hBN (fun k hk => hap k (List.mem_cons_of_mem _ hk)) (hfl.imp id fun h k hk => h k (List.mem_cons_of_mem _ hk)) hh
    obtain ⟨o, ho, hao⟩ := some_of_apart hi (hap (.w, j) (List.mem_cons_self ..))
    obtain ⟨a1, a2, a3⟩ := Oper.apart_spec hao
    refine ⟨v', hg', WO.put_all hs (fun k hk o' ho' => ?_) h0, hh'⟩
    obtain rfl : k = j := by simpa using hk
    obtain rfl : o = o' := Option.some.inj (ho.symm.trans ho')
    exact a3
  | (.m, j) :: l1, a, F, B, hBN, hap, hfl, ⟨o, ho, hk, hsh, hh⟩ => by
    have hfl' : oi.op.flat = true := by
      rcases hfl with h | h
      · exact h
      · exact absurd rfl (h (.m, j) (List.mem_cons_self ..))
    obtain ⟨a1, a2, a3⟩ := Oper.apart_spec (apartB_spec ho hi (hap (.m, j) (List.mem_cons_self ..)))
    have ih := fun u hu hv => SW.frontQ hs hC hi l2 l1 _ _ _ (hBN.add u) (fun k hk => hap k (List.mem_cons_of_mem _ hk)) (.inl hfl') (hh u hu hv)
    obtain ⟨uw, hw1, hw2⟩ := hBN.wit n0 (shpOf Ψ j o)
    obtain ⟨v0, g0, _⟩ := ih uw hw1 hw2
    refine ⟨v0, (Gv.put (fun cs b => hs i oi cs b hi) a1).1 g0, o, ho, ?_, ?_, fun u hu hv => ?_⟩
    · rw [fact_put (fun cs b => hs j o cs b ho) a3]; exact (Mk.put hs ho a3).2 hk
    · rw [fact_put (fun cs b => hs j o cs b ho) a3]; exact hsh
    · rw [fact_put (fun cs b => hs j o cs b ho) a3]
      obtain ⟨v, g, h⟩ := ih u hu hv
      obtain rfl := Gv.inj hC hfl' ((Gv.put (fun cs b => hs i oi cs b hi) a1).1 g) ((Gv.put (fun cs b => hs i oi cs b hi) a1).1 g0)
      rw [← Act.put_comm a u v a2]; exact h
/-- the writer, pulled to the front -/
theorem SW.frontW (hs : NoSel ops) {T : Act → Facts → Prop} {i : Nat} {oi : Oper} (hi : ops[i]? = some oi) (l2 : List (Knd × Nat)) : ∀ (l1 : List (Knd × Nat)) (a : Act) (F : Facts) (B : Blks), Bnd B → (∀ p, p ∈ l1 → apartB ops p.2 i = true) →
    SW P ops C n0 Mv I D Ψ T (l1 ++ (.w, i) :: l2) a F B → WO P ops I D Mv [i] a ∧ SW P ops C n0 Mv I D Ψ T (l1 ++ l2) a F B
  | [], a, F, B, _, _, h => h
  | (.q, j) :: l1, a, F, B, hBN, hap, ⟨o, ho, v, hg, hh⟩ => by
    obtain ⟨h1, hh'⟩ := SW.frontW hs hi l2 l1 _ F B hBN (fun k hk => hap k (List.mem_cons_of_mem _ hk)) hh
    obtain ⟨a1, a2, a3⟩ := Oper.apart_spec (apartB_spec ho hi (hap (.q, j) (List.mem_cons_self ..)))
    exact ⟨WO.put hs hi a1 h1, o, ho, v, hg, hh'⟩
  | (.w, j) :: l1, a, F, B, hBN, hap, ⟨h0, hh⟩ => by
    obtain ⟨h1, hh'⟩ := SW.frontW hs hi l2 l1 _ F B hBN (fun k hk => hap k (List.mem_cons_of_mem _ hk)) hh
    exact ⟨h1, h0, hh'⟩
  | (.m, j) :: l1, a, F, B, hBN, hap, ⟨o, ho, hk, hsh, hh⟩ => by
    obtain ⟨a1, a2, a3⟩ := Oper.apart_spec (apartB_spec ho hi (hap (.m, j) (List.mem_cons_self ..)))
    have ih := fun u hu hv => SW.frontW hs hi l2 l1 _ _ _ (hBN.add u) (fun k hk => hap k (List.mem_cons_of_mem _ hk)) (hh u hu hv)
    obtain ⟨uw, hw1, hw2⟩ := hBN.wit n0 (shpOf Ψ j o)
    exact ⟨WO.put hs hi a1 (ih uw hw1 hw2).1, o, ho, hk, hsh, fun u hu hv => (ih u hu hv).2⟩
/-- a maker, pulled to the front -/
theorem SW.frontM (hs : NoSel ops) {T : Act → Facts → Prop} (hT : ∀ a (F F' : Facts), (∀ w, F' w → F w) → T a F → T a F') {i : Nat} {oi : Oper} (hi : ops[i]? = some oi) (l2 : List (Knd × Nat)) : ∀ (l1 : List (Knd × Nat)) (a : Act) (F : Facts) (B : Blks), Bnd B → (∀ p, p ∈ l1 → apartB ops p.2 i = true) →
    SW P ops C n0 Mv I D Ψ T (l1 ++ (.m, i) :: l2) a F B → Mk P ops C n0 Mv a (i, fact P C n0 Mv Ψ i oi a) ∧ (∀ u w, fact P C n0 Mv Ψ i oi a u w → (shpOf Ψ i oi).ok u) ∧
      ∀ u, (∀ b, u.blk = some b → n0 ≤ b ∧ ¬ B b) → (shpOf Ψ i oi).ok u → SW P ops C n0 Mv I D Ψ T (l1 ++ l2) (a.put oi.dst u) (fun w => F w ∧ fact P C n0 Mv Ψ i oi a u w) (fun b => B b ∨ u.blk = some b)
  | [], a, F, B, _, _, ⟨o, ho, hk, hh⟩ => by
    obtain rfl : oi = o := Option.some.inj (hi.symm.trans ho)
    exact ⟨hk, hh⟩
  | (.q, j) :: l1, a, F, B, hBN, hap, ⟨o, ho, v, hg, hh⟩ => by
    obtain ⟨a1, a2, a3⟩ := Oper.apart_spec (apartB_spec ho hi (hap (.q, j) (List.mem_cons_self ..)))
    obtain ⟨h1, hsi, hh'⟩ := SW.frontM hs hT hi l2 l1 _ F B hBN (fun k hk => hap k (List.mem_cons_of_mem _ hk)) hh
    rw [fact_put (fun cs b => hs i oi cs b hi) a1] at h1 hsi hh'
    refine ⟨(Mk.put hs hi a1).1 h1, hsi, fun u hu hv => ⟨o, ho, v, (Gv.put (fun cs b => hs j o cs b ho) a3).2 hg, ?_⟩⟩
    rw [← Act.put_comm a v u a2]; exact hh' u hu hv
  | (.w, j) :: l1, a, F, B, hBN, hap, ⟨h0, hh⟩ => by
    obtain ⟨o, ho, hao⟩ := some_of_apart hi (hap (.w, j) (List.mem_cons_self ..))
    obtain ⟨a1, a2, a3⟩ := Oper.apart_spec hao
    obtain ⟨h1, hsi, hh'⟩ := SW.frontM hs hT hi l2 l1 _ F B hBN (fun k hk => hap k (List.mem_cons_of_mem _ hk)) hh
    refine ⟨h1, hsi, fun u hu hv => ⟨WO.put_all hs (fun k hk o' ho' => ?_) h0, hh' u hu hv⟩⟩
    obtain rfl : k = j := by simpa using hk
    obtain rfl : o = o' := Option.some.inj (ho.symm.trans ho')
    exact a3
  | (.m, j) :: l1, a, F, B, hBN, hap, ⟨o, ho, hk, hsh, hh⟩ => by
    obtain ⟨a1, a2, a3⟩ := Oper.apart_spec (apartB_spec ho hi (hap (.m, j) (List.mem_cons_self ..)))
    have ih := fun u hu hv => SW.frontM hs hT hi l2 l1 _ _ _ (hBN.add u) (fun k hk => hap k (List.mem_cons_of_mem _ hk)) (hh u hu hv)
    have hfi : ∀ u, fact P C n0 Mv Ψ i oi (a.put o.dst u) = fact P C n0 Mv Ψ i oi a := fun u => fact_put (fun cs b => hs i oi cs b hi) a1
    obtain ⟨uw, hw1, hw2⟩ := hBN.wit n0 (shpOf Ψ j o)
    refine ⟨?_, ?_, fun u hu hv => ⟨o, ho, ?_, ?_, fun uj huj hvj => ?_⟩⟩
    · have := (ih uw hw1 hw2).1
      rw [hfi] at this
      exact (Mk.put hs hi a1).1 this
    · have := (ih uw hw1 hw2).2.1
      rw [hfi] at this
      exact this
    · rw [fact_put (fun cs b => hs j o cs b ho) a3]; exact (Mk.put hs ho a3).2 hk
    · rw [fact_put (fun cs b => hs j o cs b ho) a3]; exact hsh
    · have h2 := (ih uj (fun b hb => ⟨(huj b hb).1, fun hB => (huj b hb).2 (.inl hB)⟩) hvj).2.2 u (fun b hb => ⟨(hu b hb).1, fun hB => by
        rcases hB with hB | hB
        · exact (hu b hb).2 hB
        · exact (huj b hB).2 (.inr hb)⟩) hv
      rw [hfi] at h2
      rw [fact_put (fun cs b => hs j o cs b ho) a3, ← Act.put_comm a uj u a2]
      have e2 : (fun b => (B b ∨ uj.blk = some b) ∨ u.blk = some b) = (fun b => (B b ∨ u.blk = some b) ∨ uj.blk = some b) := by funext b; exact propext or_right_comm
      rw [e2] at h2
      exact SW.mono hT (fun w ⟨⟨x, y⟩, z⟩ => ⟨⟨x, z⟩, y⟩) h2
/-- a late pure one, pulled through the whole script -/
theorem SW.pure (hs : NoSel ops) {i : Nat} {oi : Oper} (hi : ops[i]? = some oi) {p1 p2 τ : List Nat} (hap1 : ∀ j, j ∈ p1 → apartB ops j i = true) : ∀ (l : List (Knd × Nat)) (a : Act) (F : Facts) (B : Blks), Bnd B →
    (∀ p, p ∈ l → apartB ops p.2 i = true) → SW P ops C n0 Mv I D Ψ (TO P ops D Q (p1 ++ i :: p2) τ) l a F B →
    ∃ v, Yields P ops oi v a ∧ SW P ops C n0 Mv I D Ψ (TO P ops D Q (p1 ++ p2) τ) l (a.put oi.dst v) F B
  | [], a, F, B, _, _, h => PW.front hs hi p2 p1 a hap1 h
  | (.q, j) :: l, a, F, B, hBN, hap, ⟨o, ho, v, hg, hh⟩ => by
    obtain ⟨a1, a2, a3⟩ := Oper.apart_spec (apartB_spec ho hi (hap (.q, j) (List.mem_cons_self ..)))
    obtain ⟨v', y, h⟩ := SW.pure hs hi hap1 l _ F B hBN (fun k hk => hap k (List.mem_cons_of_mem _ hk)) hh
    refine ⟨v', y.of_same (execOp_put oi (fun cs b => hs i oi cs b hi) a o.dst v a1).symm (wanted_put oi a o.dst v a1).symm, o, ho, v, (Gv.put (fun cs b => hs j o cs b ho) a3).2 hg, ?_⟩
    rw [← Act.put_comm a v v' a2]; exact h
  | (.w, j) :: l, a, F, B, hBN, hap, ⟨h0, hh⟩ => by
    obtain ⟨o, ho, hao⟩ := some_of_apart hi (hap (.w, j) (List.mem_cons_self ..))
    obtain ⟨a1, a2, a3⟩ := Oper.apart_spec hao
    obtain ⟨v', y, h⟩ := SW.pure hs hi hap1 l _ F B hBN (fun k hk => hap k (List.mem_cons_of_mem _ hk)) hh
    refine ⟨v', y, WO.put_all hs (fun k hk o' ho' => ?_) h0, h⟩
    obtain rfl : k = j := by simpa using hk
    obtain rfl : o = o' := Option.some.inj (ho.symm.trans ho')
    exact a3
  | (.m, j) :: l, a, F, B, hBN, hap, ⟨o, ho, hk, hsh, hh⟩ => by
    obtain ⟨a1, a2, a3⟩ := Oper.apart_spec (apartB_spec ho hi (hap (.m, j) (List.mem_cons_self ..)))
    have key : ∀ u v, Yields P ops oi v (a.put o.dst u) → Yields P ops oi v a := fun u v hy =>
      hy.of_same (execOp_put oi (fun cs b => hs i oi cs b hi) a o.dst u a1).symm (wanted_put oi a o.dst u a1).symm
    have ih := fun u hu hv => SW.pure hs hi hap1 l _ _ _ (hBN.add u) (fun k hk => hap k (List.mem_cons_of_mem _ hk)) (hh u hu hv)
    obtain ⟨uw, hw1, hw2⟩ := hBN.wit n0 (shpOf Ψ j o)
    obtain ⟨v0, y0, _⟩ := ih uw hw1 hw2
    refine ⟨v0, key _ _ y0, o, ho, ?_, ?_, fun u hu hv => ?_⟩
    · rw [fact_put (fun cs b => hs j o cs b ho) a3]; exact (Mk.put hs ho a3).2 hk
    · rw [fact_put (fun cs b => hs j o cs b ho) a3]; exact hsh
    · rw [fact_put (fun cs b => hs j o cs b ho) a3]
      obtain ⟨v, y, h⟩ := ih u hu hv
      obtain rfl := Yields.inj (key _ _ y) (key _ _ y0)
      rw [← Act.put_comm a u v a2]; exact h
/-- the order that is walked -/
structure OrdS (ops : Array Oper) (S : List (Knd × Nat)) (lp τ : List Nat) : Prop where
  nodup : (S.map Prod.snd ++ lp ++ τ).Nodup
  fwd : (S.map Prod.snd ++ lp ++ τ).Pairwise fun i j => dep ops i j = false
  irr : ∀ i, i ∈ S.map Prod.snd ++ lp ++ τ → dep ops i i = false
  lt : ∀ i, i ∈ S.map Prod.snd ++ lp ++ τ → i < ops.size
  ap : (S.map Prod.snd ++ lp).Pairwise fun j i => dep ops i j = true ∨ apartB ops j i = true
  apT : ∀ i, i ∈ S.map Prod.snd ++ lp → ∀ t, t ∈ τ → dep ops t i = true ∨ apartB ops i t = true
  inj : S.Pairwise fun p q => p.1 = .m → q.1 = .q → dep ops q.2 p.2 = true ∨ ((ops[q.2]?).map fun o => o.op.flat) = some true
theorem OrdS.sub {S S' : List (Knd × Nat)} {lp τ lp' τ' : List Nat} (h : OrdS ops S lp τ) (h1 : S'.Sublist S) (h3 : lp'.Sublist lp) (h4 : τ'.Sublist τ) : OrdS ops S' lp' τ' := by
  have hs : (S'.map Prod.snd ++ lp').Sublist (S.map Prod.snd ++ lp) := (h1.map _).append h3
  have ha : (S'.map Prod.snd ++ lp' ++ τ').Sublist (S.map Prod.snd ++ lp ++ τ) := hs.append h4
  exact ⟨h.nodup.sublist ha, h.fwd.sublist ha, fun i hi => h.irr i (ha.subset hi), fun i hi => h.lt i (ha.subset hi), h.ap.sublist hs, fun i hi t ht => h.apT i (hs.subset hi) t (h4.subset ht), h.inj.sublist h1⟩
def nw (S : List (Knd × Nat)) : Nat := S.countP fun p => decide (p.1 = .w)
/-- the first phase -/
theorem calmS (hE : Edg ops) (hCI : ∀ w, I w → C w) (hCD : ∀ w, D w → C w) (hIx : ∀ w w', I w → Ext w w' → I w') (hDx : ∀ w w', D w → Ext w w' → D w')
    (np : List Nat) (hnp : ∀ j, j ∈ np → j < ops.size) (τ : List Nat) (hcov : ∀ t, τ.head? = some t → cov ops t np = true) : ∀ (fuel : Nat) (listed : Array Bool) (a : Act) (w : World) (F : Facts) (B : Blks) (S : List (Knd × Nat)) (lp : List Nat),
    Inv ops listed (S.map Prod.snd ++ lp ++ τ) → OrdS ops S lp τ → chain ops τ = true → (∀ j, j ∈ S.map Prod.snd → j ∈ np) → fuel = (S.map Prod.snd ++ lp ++ τ).length →
    nw S ≤ 1 → (nw S = 1 → I w) → (nw S = 0 → D w) → n0 ≤ w.heap.size → F w → (∀ w w', F w → Ext w w' → F w') → (∀ w w', F w → Mv w w' → F w') → (∀ b, B b → b < w.heap.size) → SW P ops C n0 Mv I D Ψ (TO P ops D (only Q) lp τ) S a F B → wpAny P .any ops (only Q) fuel listed a w
  | 0, listed, a, w, F, B, S, lp, hI, hO, hc, hn, hf, hw1, hwI, hwD, hn0, hF, hFs, hFm, hB, h => by
    have h0 : S.map Prod.snd ++ lp ++ τ = [] := List.eq_nil_of_length_eq_zero hf.symm
    simp only [List.append_eq_nil_iff, List.map_eq_nil_iff] at h0
    obtain ⟨⟨rfl, rfl⟩, rfl⟩ := h0
    exact calmB hE 0 listed a w [] [] hI ⟨hO.nodup, hO.fwd, hO.irr, hO.lt, hO.ap, List.Pairwise.nil, (fun _ h => by cases h), hO.apT⟩ hc rfl (PW.mono (fun a' h' => h' w (hwD rfl) hF) h)
  | fuel + 1, listed, a, w, F, B, S, lp, hI, hO, hc, hn, hf, hw1, hwI, hwD, hn0, hF, hFs, hFm, hB, h => by
    have hT : ∀ a (F F' : Facts), (∀ w, F' w → F w) → TO P ops D (only Q) lp τ a F → TO P ops D (only Q) lp τ a F' := fun a F F' hF h => PW.mono (fun a' h' w hw hF' => h' w hw (hF w hF')) h
    have hCw : C w := by
      by_cases hl : nw S = 0
      · exact hCD w (hwD hl)
      · exact hCI w (hwI (by omega))
    refine ⟨fun h0 => ?_, fun i hi => ?_⟩
    · exfalso
      cases hl : S.map Prod.snd ++ lp ++ τ with
      | nil => rw [hl] at hf; cases hf
      | cons x l =>
        rw [hl] at hI
        have := head_ready hI hE (by rw [← hl]; exact hO.fwd) (hO.irr x (by rw [hl]; exact List.mem_cons_self ..)) (hO.lt x (by rw [hl]; exact List.mem_cons_self ..))
        rw [h0] at this; cases this
    · obtain ⟨hlt, hp, hd⟩ := (ready_spec hI hE).1 hi
      have hio : ops[i]? = some ops[i] := by simp [hlt]
      have hapS : ∀ l1 l2, S.map Prod.snd ++ lp = l1 ++ i :: l2 → ∀ j, j ∈ l1 → apartB ops j i = true := fun l1 l2 he j hj => by
        have h2 := hO.ap
        rw [he] at h2
        rcases (List.pairwise_append.1 h2).2.2 j hj i (List.mem_cons_self ..) with h3 | h3
        · have : j ∈ S.map Prod.snd ++ lp ++ τ := by rw [he]; simp [hj]
          rw [hd j this] at h3; cases h3
        · exact h3
      rcases List.mem_append.1 hp with hp | hp
      · rcases List.mem_append.1 hp with hp | hp
        · -- of the script
          obtain ⟨⟨k, i'⟩, hm, hii⟩ := List.mem_map.1 hp
          simp only at hii
          subst hii
          obtain ⟨l1, l2, rfl⟩ := List.append_of_mem hm
          have hap : ∀ p, p ∈ l1 → apartB ops p.2 i' = true := fun p hp => hapS (l1.map Prod.snd) (l2.map Prod.snd ++ lp) (by simp) p.2 (List.mem_map_of_mem hp)
          have hI' : Inv ops listed (l1.map Prod.snd ++ i' :: (l2.map Prod.snd ++ lp ++ τ)) := by simpa using hI
          have hI2 : Inv ops (listed.setIfInBounds i' true) ((l1 ++ l2).map Prod.snd ++ lp ++ τ) := by simpa using hI'.step hE (by simpa using hO.nodup) hi
          have hO2 : OrdS ops (l1 ++ l2) lp τ := hO.sub (by simp) (List.Sublist.refl _) (List.Sublist.refl _)
          have hn2 : ∀ j, j ∈ (l1 ++ l2).map Prod.snd → j ∈ np := fun j hj => hn j (by simp only [List.map_append, List.map_cons, List.mem_append, List.mem_cons] at hj ⊢; rcases hj with hj | hj <;> simp [hj])
          have hf2 : fuel = ((l1 ++ l2).map Prod.snd ++ lp ++ τ).length := by simp at hf ⊢; omega
          have hnw : nw (l1 ++ (k, i') :: l2) = nw (l1 ++ l2) + if k = .w then 1 else 0 := by
            simp only [nw, List.countP_append, List.countP_cons, decide_eq_true_eq]; omega
          cases k with
          | q =>
            rw [hnw] at hw1 hwI hwD
            simp only [reduceCtorEq, if_false, Nat.add_zero] at hw1 hwI hwD
            have hfl : (ops[i']).op.flat = true ∨ ∀ p, p ∈ l1 → p.1 ≠ .m := by
              by_cases hfl : (ops[i']).op.flat = true
              · exact .inl hfl
              · refine .inr fun p hp hpm => ?_
                rcases (List.pairwise_append.1 hO.inj).2.2 p hp (.q, i') (List.mem_cons_self ..) hpm rfl with h3 | h3
                · rw [hd p.2 (by simp only [List.map_append, List.mem_append]; exact .inl (.inl (.inl (List.mem_map_of_mem hp))))] at h3; cases h3
                · rw [hio] at h3; exact hfl (by simpa using h3)
            obtain ⟨v, hg, hk⟩ := SW.frontQ hE.sel ⟨w, hCw⟩ hio l2 l1 a F B ⟨_, hB⟩ hap hfl h
            exact wp_of_gv hio hg hCw fun w' hx => calmS hE hCI hCD hIx hDx np hnp τ hcov fuel _ _ _ F B (l1 ++ l2) lp hI2 hO2 hc hn2 hf2 hw1 (fun hl => hIx _ _ (hwI hl) hx) (fun hl => hDx _ _ (hwD hl) hx) (Nat.le_trans hn0 hx.size) (hFs _ _ hF hx) hFs hFm (fun b hb => Nat.lt_of_lt_of_le (hB b hb) hx.size) hk
          | m =>
            rw [hnw] at hw1 hwI hwD
            simp only [reduceCtorEq, if_false, Nat.add_zero] at hw1 hwI hwD
            obtain ⟨hg, hsh, hk⟩ := SW.frontM hE.sel hT hio l2 l1 a F B ⟨_, hB⟩ hap h
            refine wp_of_mk hio hg hCw fun u w' hx hΦ hb => ?_
            obtain ⟨hst, hsm⟩ : Stable (fact P C n0 Mv Ψ i' ops[i'] a) ∧ StableM n0 Mv (fact P C n0 Mv Ψ i' ops[i'] a) := by obtain ⟨_, _, _, hst, hsm, _⟩ := hg; exact ⟨hst, hsm⟩
            have hfr : ∀ b, u.blk = some b → n0 ≤ b ∧ ¬ B b := fun b h1 => ⟨Nat.le_trans hn0 (hb b h1).1, fun h2 => by have := hB b h2; have := (hb b h1).1; omega⟩
            exact calmS hE hCI hCD hIx hDx np hnp τ hcov fuel _ _ _ _ _ (l1 ++ l2) lp hI2 hO2 hc hn2 hf2 hw1 (fun hl => hIx _ _ (hwI hl) hx) (fun hl => hDx _ _ (hwD hl) hx) (Nat.le_trans hn0 hx.size) ⟨hFs _ _ hF hx, hΦ⟩
              (fun w1 w2 h1 h2 => ⟨hFs _ _ h1.1 h2, hst _ _ _ h1.2 h2⟩) (fun w1 w2 h1 h2 => ⟨hFm _ _ h1.1 h2, hsm _ _ _ h1.2 (fun b hb => (hfr b hb).1) h2⟩) (fun b h1 => by
                rcases h1 with h1 | h1
                · exact Nat.lt_of_lt_of_le (hB b h1) hx.size
                · exact (hb b h1).2) (hk u hfr (hsh u w' hΦ))
          | w =>
            rw [hnw] at hw1 hwI hwD
            simp only [if_true] at hw1 hwI hwD
            have hnw0 : nw (l1 ++ l2) = 0 := by omega
            obtain ⟨hwo, hk⟩ := SW.frontW hE.sel hio l2 l1 a F B ⟨_, hB⟩ hap h
            obtain ⟨o', ho', hdst, hwant, hrun⟩ := hwo i' (List.mem_singleton.2 rfl)
            obtain rfl : ops[i'] = o' := Option.some.inj (hio.symm.trans ho')
            obtain ⟨w', hr, hD', hM, hsz⟩ := hrun w (hwI (by omega))
            refine wpOp_at hio ?_
            rw [if_pos hwant]
            unfold Oper.wp
            rw [hr]
            simp only [Oper.upon, hdst, Act.put]
            exact calmS hE hCI hCD hIx hDx np hnp τ hcov fuel _ _ _ F B (l1 ++ l2) lp hI2 hO2 hc hn2 hf2 (by omega) (fun hl => by omega) (fun _ => hD') (Nat.le_trans hn0 hsz) (hFm _ _ hF hM) hFs hFm (fun b hb => Nat.lt_of_lt_of_le (hB b hb) hsz) hk
        · -- a pure one
          obtain ⟨l1, l2, rfl⟩ := List.append_of_mem hp
          have hq1 := hapS (S.map Prod.snd ++ l1) l2 (by simp)
          obtain ⟨v, hy, hk⟩ := SW.pure hE.sel hio (fun j hj => hq1 j (by simp [hj])) S a F B ⟨_, hB⟩ (fun p hp => hq1 p.2 (by simp only [List.mem_append]; exact .inl (List.mem_map_of_mem hp))) h
          have hI' : Inv ops listed ((S.map Prod.snd ++ l1) ++ i :: (l2 ++ τ)) := by simpa using hI
          refine hy.wpOp hio ?_
          exact calmS hE hCI hCD hIx hDx np hnp τ hcov fuel _ _ _ F B S (l1 ++ l2) (by simpa using hI'.step hE (by simpa using hO.nodup) hi) (hO.sub (List.Sublist.refl _) (by simp) (List.Sublist.refl _)) hc hn (by simp at hf ⊢; omega) hw1 hwI hwD hn0 hF hFs hFm hB hk
      · -- the tail's first
        obtain ⟨τ', hτ⟩ := chain_head hc hp (fun j hj => hd j (by simp only [List.mem_append]; exact .inr hj))
        have hcl := cov_listed hI hE hi hnp (hcov i (by rw [hτ]; rfl))
        have hS : S = [] := by
          rw [← List.map_eq_nil_iff (f := Prod.snd)]
          exact List.eq_nil_iff_forall_not_mem.2 fun j hj => hcl j (hn j hj) (by simp only [List.mem_append]; exact .inl (.inl hj))
        subst hS
        have := calmB (P := P) (Q := Q) hE (fuel + 1) listed a w lp τ (by simpa using hI) ⟨hO.nodup, hO.fwd, hO.irr, hO.lt, hO.ap, List.Pairwise.nil, (fun i hi j hj => by cases hj), hO.apT⟩ hc (by simpa using hf) (PW.mono (fun a' h' => h' w (hwD rfl) hF) h)
        exact this.2 i hi
def scriptOk (ops : Array Oper) (S : List (Knd × Nat)) (lp τ : List Nat) : Bool :=
  edgB ops && (List.range ops.size).all (fun i => (S.map Prod.snd ++ lp ++ τ).contains i) && (S.map Prod.snd ++ lp ++ τ).all (fun i => decide (i < ops.size) && !dep ops i i) &&
  pairB (fun i j => i != j && !dep ops i j) (S.map Prod.snd ++ lp ++ τ) && pairB (fun j i => dep ops i j || apartB ops j i) (S.map Prod.snd ++ lp) &&
  (S.map Prod.snd ++ lp).all (fun i => τ.all fun t => dep ops t i || apartB ops i t) && chain ops τ && (τ.head?.map fun t => cov ops t (S.map Prod.snd)).getD true && decide (nw S ≤ 1) &&
  injB ops S
where injB (ops : Array Oper) : List (Knd × Nat) → Bool
  | [] => true
  | (.m, j) :: l => l.all (fun p => match p.1 with | .q => dep ops p.2 j || (((ops[p.2]?).map fun o => o.op.flat).getD false) | _ => true) && injB ops l
  | _ :: l => injB ops l
theorem injB_spec {ops : Array Oper} : ∀ {S : List (Knd × Nat)}, scriptOk.injB ops S = true → S.Pairwise fun p q => p.1 = .m → q.1 = .q → dep ops q.2 p.2 = true ∨ ((ops[q.2]?).map fun o => o.op.flat) = some true
  | [], _ => List.Pairwise.nil
  | (.m, j) :: l, h => by
    simp only [scriptOk.injB, Bool.and_eq_true, List.all_eq_true] at h
    refine List.pairwise_cons.2 ⟨fun p hp _ hq => ?_, injB_spec h.2⟩
    have := h.1 p hp
    obtain ⟨k, i⟩ := p
    simp only at hq
    subst hq
    simp only [Bool.or_eq_true] at this
    refine this.imp id fun h => ?_
    cases ho : ops[i]? with
    | none => rw [ho] at h; cases h
    | some o => rw [ho] at h; simpa using h
  | (.q, j) :: l, h => List.pairwise_cons.2 ⟨fun p hp h0 => (by cases h0), injB_spec (by simpa [scriptOk.injB] using h)⟩
  | (.w, j) :: l, h => List.pairwise_cons.2 ⟨fun p hp h0 => (by cases h0), injB_spec (by simpa [scriptOk.injB] using h)⟩
theorem wp_region_script {id : Nat} {a : Act} {w : World} {l : List Oper} (S : List (Knd × Nat)) (lp τ : List Nat) (hm : P.follows .mixedOrders = true) (hB : scriptOk l.toArray S lp τ = true)
    (hCI : ∀ w, I w → C w) (hCD : ∀ w, D w → C w) (hIx : ∀ w w', I w → Ext w w' → I w') (hDx : ∀ w w', D w → Ext w w' → D w') (hI0 : nw S = 1 → I w.drew) (hD0 : nw S = 0 → D w.drew) (hn0 : n0 ≤ w.heap.size)
    (h : SW P l.toArray C n0 Mv I D Ψ (TO P l.toArray D (only Q) lp τ) S a (fun _ => True) (fun _ => False)) : (Code.region id l.toArray true).wp P Q a w := by
  simp only [scriptOk, edgB, Bool.and_eq_true] at hB
  obtain ⟨⟨⟨⟨⟨⟨⟨⟨⟨⟨b0, b0'⟩, b1⟩, b2⟩, b3⟩, b4⟩, b6⟩, b7⟩, b8⟩, b9⟩, b10⟩ := hB
  have hE : Edg l.toArray := ⟨fun j o cs b hj => Region.noSelect_spec b0 j o cs b hj, fun i o hi e he hb => by
    have hlt : i < l.toArray.size := (Array.getElem?_eq_some_iff.1 hi).1
    have := List.all_eq_true.1 b0' i (List.mem_range.2 hlt)
    simp only [hi, Option.map_some, Option.getD_some, Array.all_eq_true_iff_forall_mem, Bool.or_eq_true, Bool.not_eq_true', decide_eq_true_eq] at this
    rcases this e he with h | h
    · rw [hb] at h; cases h
    · exact h⟩
  have hall := fun i hi => List.all_eq_true.1 b2 i hi
  have hlt : ∀ i, i ∈ S.map Prod.snd ++ lp ++ τ → i < l.toArray.size := fun i hi => by
    have := hall i hi; simp only [Bool.and_eq_true, decide_eq_true_eq] at this; exact this.1
  have hirr : ∀ i, i ∈ S.map Prod.snd ++ lp ++ τ → dep l.toArray i i = false := fun i hi => by
    have := hall i hi; simp only [Bool.and_eq_true, Bool.not_eq_true'] at this; exact this.2
  have hnd : (S.map Prod.snd ++ lp ++ τ).Nodup := (pairB_spec b3).imp fun h => by simp only [Bool.and_eq_true, bne_iff_ne] at h; exact h.1
  have hfw := (pairB_spec b3).imp fun {i j} (h : (i != j && !dep l.toArray i j) = true) => (by simp only [Bool.and_eq_true, Bool.not_eq_true'] at h; exact h.2 : dep l.toArray i j = false)
  have hO : OrdS l.toArray S lp τ := ⟨hnd, hfw, hirr, hlt, (pairB_spec b4).imp fun h => by simpa using h, fun i hi t ht => by
    have := List.all_eq_true.1 (List.all_eq_true.1 b6 i hi) t ht
    simpa using this, injB_spec b10⟩
  have hmem : ∀ i, i < l.toArray.size → i ∈ S.map Prod.snd ++ lp ++ τ := fun i hi => by
    have := List.all_eq_true.1 b1 i (List.mem_range.2 hi)
    simpa using this
  have hI : Inv l.toArray (Array.replicate l.toArray.size false) (S.map Prod.snd ++ lp ++ τ) := by
    refine ⟨by simp, fun i o hi hl => ?_, fun i hi => ?_⟩
    · have hlt : i < l.toArray.size := (Array.getElem?_eq_some_iff.1 hi).1
      simp only [List.size_toArray] at hlt
      simp [hlt] at hl
    · have := hmem i hi
      simp only [List.size_toArray] at hi
      constructor
      · intro _; exact this
      · intro _; simp [hi]
  have hlen : l.toArray.size = (S.map Prod.snd ++ lp ++ τ).length := by
    have h1 : (List.range l.toArray.size).Perm (S.map Prod.snd ++ lp ++ τ) := by
      rw [List.perm_ext_iff_of_nodup List.nodup_range hnd]
      intro i
      exact ⟨fun h => hmem i (List.mem_range.1 h), fun h => List.mem_range.2 (hlt i h)⟩
    have := h1.length_eq
    rw [List.length_range] at this
    exact this
  refine wp_region_any hm (wpAny_only _ _ _ _ ?_)
  exact calmS hE hCI hCD hIx hDx (S.map Prod.snd) (fun j hj => hlt j (by simp only [List.mem_append]; exact .inl (.inl hj))) τ (fun t ht => by rw [ht] at b8; simpa using b8) l.toArray.size _ a _ (fun _ => True) (fun _ => False) S lp hI hO b7 (fun j hj => hj) hlen
    (by simpa using b9) hI0 hD0 hn0 trivial (fun _ _ _ _ => trivial) (fun _ _ _ _ => trivial) (fun _ h => h.elim) h
/-! the steps -/
def SG (P : Program) (ops : Array Oper) (C : World → Prop) (n0 : Nat) (Mv : World → World → Prop) (I D : World → Prop) (Ψ : Nat → Option ((Value → Facts) × Shp)) (T : Act → Facts → Prop) (lo : List Oper) : List (List Oper × Knd × Nat) → Act → Facts → Blks → Prop
  | [], a, F, _ => QL P ops C (fun a' => T a' F) lo a
  | (qo, .m, i) :: S, a, F, B => QL P ops C (fun a' => ∃ o, ops[i]? = some o ∧ Mk P ops C n0 Mv a' (i, fact P C n0 Mv Ψ i o a') ∧ (∀ u w, fact P C n0 Mv Ψ i o a' u w → (shpOf Ψ i o).ok u) ∧ ∀ u, (∀ b, u.blk = some b → n0 ≤ b ∧ ¬ B b) → (shpOf Ψ i o).ok u → SG P ops C n0 Mv I D Ψ T lo S (a'.put o.dst u) (fun w => F w ∧ fact P C n0 Mv Ψ i o a' u w) (fun b => B b ∨ u.blk = some b)) qo a
  | (qo, .w, i) :: S, a, F, B => QL P ops C (fun a' => WO P ops I D Mv [i] a' ∧ SG P ops C n0 Mv I D Ψ T lo S a' F B) qo a
  | (_, .q, _) :: _, _, _, _ => False
theorem QL.mono {R R' : Act → Prop} (h : ∀ a, R a → R' a) : ∀ {l : List Oper} {a : Act}, QL P ops C R l a → QL P ops C R' l a
  | [], _, hh => h _ hh
  | _ :: _, _, ⟨v, hg, hh⟩ => ⟨v, hg, QL.mono h hh⟩
theorem SG.mono {T : Act → Facts → Prop} (hT : ∀ a (F F' : Facts), (∀ w, F' w → F w) → T a F → T a F') {lo : List Oper} : ∀ {S : List (List Oper × Knd × Nat)} {a : Act} {F F' : Facts} {B : Blks}, (∀ w, F' w → F w) → SG P ops C n0 Mv I D Ψ T lo S a F B → SG P ops C n0 Mv I D Ψ T lo S a F' B
  | [], _, _, _, _, hF, h => QL.mono (fun _ h' => hT _ _ _ hF h') h
  | (_, .m, _) :: _, _, _, _, _, hF, h => QL.mono (fun _ ⟨o, ho, hk, hsh, h'⟩ => ⟨o, ho, hk, hsh, fun u hu hv => SG.mono hT (fun w hw => ⟨hF w hw.1, hw.2⟩) (h' u hu hv)⟩) h
  | (_, .w, _) :: _, _, _, _, _, hF, h => QL.mono (fun _ ⟨h0, h'⟩ => ⟨h0, SG.mono hT hF h'⟩) h
  | (_, .q, _) :: _, _, _, _, _, _, h => h.elim
def flatS (segs : List (List Nat × Knd × Nat)) (lql : List Nat) : List (Knd × Nat) := segs.flatMap (fun s => s.1.map (fun i => (Knd.q, i)) ++ [s.2]) ++ lql.map (fun i => (Knd.q, i))
theorem qs_sw {T : Act → Facts → Prop} {rest : List (Knd × Nat)} {F : Facts} {B : Blks} : ∀ {l : List Nat} {a : Act}, (∀ i, i ∈ l → i < ops.size) → QL P ops C (fun a' => SW P ops C n0 Mv I D Ψ T rest a' F B) (l.filterMap (ops[·]?)) a → SW P ops C n0 Mv I D Ψ T (l.map (fun i => (Knd.q, i)) ++ rest) a F B
  | [], _, _, h => h
  | i :: l, a, hlt, h => by
    have hi : ops[i]? = some (ops[i]'(hlt i (List.mem_cons_self ..))) := by simp [hlt i (List.mem_cons_self ..)]
    rw [List.filterMap_cons, hi] at h
    obtain ⟨v, hg, hh⟩ := h
    exact ⟨_, hi, v, hg, qs_sw (fun k hk => hlt k (List.mem_cons_of_mem _ hk)) hh⟩
theorem sg_sw {T : Act → Facts → Prop} {lql : List Nat} : ∀ {segs : List (List Nat × Knd × Nat)} {a : Act} {F : Facts} {B : Blks}, (∀ p, p ∈ flatS segs lql → p.2 < ops.size) →
    SG P ops C n0 Mv I D Ψ T (lql.filterMap (ops[·]?)) (segs.map fun s => (s.1.filterMap (ops[·]?), s.2)) a F B → SW P ops C n0 Mv I D Ψ T (flatS segs lql) a F B
  | [], a, F, B, hlt, h => by
    have := qs_sw (n0 := n0) (Mv := Mv) (I := I) (D := D) (Ψ := Ψ) (B := B) (F := F) (T := T) (rest := []) (l := lql) (fun i hi => hlt (.q, i) (by simp only [flatS, List.flatMap_nil, List.nil_append]; exact List.mem_map_of_mem hi)) h
    simpa [flatS] using this
  | (lq, .q, i) :: segs, a, F, B, hlt, h => h.elim
  | (lq, .m, i) :: segs, a, F, B, hlt, h => by
    have e : flatS ((lq, .m, i) :: segs) lql = lq.map (fun i => (Knd.q, i)) ++ ((Knd.m, i) :: flatS segs lql) := by simp [flatS]
    rw [e] at hlt ⊢
    refine qs_sw (fun k hk => hlt (.q, k) (by simp only [List.mem_append]; exact .inl (List.mem_map_of_mem hk))) (QL.mono ?_ h)
    rintro a' ⟨o, ho, hk, hsh, h'⟩
    exact ⟨o, ho, hk, hsh, fun u hu hv => sg_sw (fun p hp => hlt p (by simp [hp])) (h' u hu hv)⟩
  | (lq, .w, i) :: segs, a, F, B, hlt, h => by
    have e : flatS ((lq, .w, i) :: segs) lql = lq.map (fun i => (Knd.q, i)) ++ ((Knd.w, i) :: flatS segs lql) := by simp [flatS]
    rw [e] at hlt ⊢
    refine qs_sw (fun k hk => hlt (.q, k) (by simp only [List.mem_append]; exact .inl (List.mem_map_of_mem hk))) (QL.mono ?_ h)
    rintro a' ⟨h0, h'⟩
    exact ⟨h0, sg_sw (fun p hp => hlt p (by simp [hp])) h'⟩
/-- THE RULE: 'segs' are the quiet ones ahead of each maker (or the writer), 'lql' the quiet ones behind, 'lp' the late pure ones, 'τ' the tail -/
theorem wp_region_segs {id : Nat} {a : Act} {w : World} {l : List Oper} (Ψ : Nat → Option ((Value → Facts) × Shp)) (segs : List (List Nat × Knd × Nat)) (lql lp τ : List Nat) {so : List (List Oper × Knd × Nat)} {qo po lo : List Oper} (hm : P.follows .mixedOrders = true) (hB : scriptOk l.toArray (flatS segs lql) lp τ = true)
    (hs : (segs.map fun s => (s.1.filterMap (l.toArray[·]?), s.2)) = so) (hq : lql.filterMap (l.toArray[·]?) = qo) (hp : lp.filterMap (l.toArray[·]?) = po) (hl : τ.filterMap (l.toArray[·]?) = lo) (hnw : nw (flatS segs lql) = 0)
    (h : SG P l.toArray (fun w' => ∃ d, w' = w.ext d) w.heap.size NoMv (fun _ => False) (fun w' => ∃ d, w' = w.ext d) Ψ (fun a F => PL P l.toArray (fun a3 => ∀ w', Ext w w' → F w' → wpList P l.toArray (only Q) lo a3 w') po a) qo so a (fun _ => True) (fun _ => False)) : (Code.region id l.toArray true).wp P Q a w := by
  have hlt : ∀ i, i ∈ (flatS segs lql).map Prod.snd ++ lp ++ τ → i < l.toArray.size := fun i hi => by
    simp only [scriptOk, Bool.and_eq_true] at hB
    obtain ⟨⟨⟨⟨⟨⟨⟨⟨_, b2⟩, _⟩, _⟩, _⟩, _⟩, _⟩, _⟩, _⟩ := hB
    have := List.all_eq_true.1 b2 i hi; simp only [Bool.and_eq_true, decide_eq_true_eq] at this; exact this.1
  refine wp_region_script (I := fun _ => False) (D := fun w' => ∃ d, w' = w.ext d) (C := fun w' => ∃ d, w' = w.ext d) (n0 := w.heap.size) (Mv := NoMv) (Ψ := Ψ) (flatS segs lql) lp τ hm hB (fun _ h => h.elim) (fun _ h => h) (fun _ _ h => h.elim) (fun a b h h' => Ext.trans h h') (fun h => by omega) (fun _ => ⟨w.grow1, World.drew_is_ext w⟩) (Nat.le_refl _) ?_
  subst hs hq hp hl
  have hτ : τ.map (l.toArray[·]?) = (τ.filterMap (l.toArray[·]?)).map some := by
    have : ∀ τ : List Nat, (∀ i, i ∈ τ → i < l.toArray.size) → τ.map (l.toArray[·]?) = (τ.filterMap (l.toArray[·]?)).map some := by
      intro τ
      induction τ with
      | nil => intro _; rfl
      | cons i τ ih =>
        intro hlt
        have hi : l.toArray[i]? = some (l.toArray[i]'(hlt i (List.mem_cons_self ..))) := Array.getElem?_eq_getElem _
        rw [List.map_cons, List.filterMap_cons, hi, ih (fun k hk => hlt k (List.mem_cons_of_mem _ hk))]
        rfl
    exact this τ (fun i hi => hlt i (by simp [hi]))
  have key : ∀ (S : List (Knd × Nat)) (a : Act) (F : Facts) (B : Blks), SW P l.toArray (fun w' => ∃ d, w' = w.ext d) w.heap.size NoMv (fun _ => False) (fun w' => ∃ d, w' = w.ext d) Ψ (fun a F => PL P l.toArray (fun a3 => ∀ w', Ext w w' → F w' → wpList P l.toArray (only Q) (τ.filterMap (l.toArray[·]?)) a3 w') (lp.filterMap (l.toArray[·]?)) a) S a F B →
      SW P l.toArray (fun w' => ∃ d, w' = w.ext d) w.heap.size NoMv (fun _ => False) (fun w' => ∃ d, w' = w.ext d) Ψ (TO P l.toArray (fun w' => ∃ d, w' = w.ext d) (only Q) lp τ) S a F B := by
    intro S
    induction S with
    | nil => intro a F B h; exact PW.mono (fun a3 h3 w' hw hF => wpOps_list hτ (h3 w' hw hF)) (pl_pw (fun i hi => hlt i (by simp [hi])) h)
    | cons p S ih =>
      intro a F B h
      obtain ⟨k, i⟩ := p
      cases k with
      | q => obtain ⟨o, ho, v, hg, h⟩ := h; exact ⟨o, ho, v, hg, ih _ _ _ h⟩
      | m => obtain ⟨o, ho, hk, hsh, h⟩ := h; exact ⟨o, ho, hk, hsh, fun u hu hv => ih _ _ _ (h u hu hv)⟩
      | w => exact ⟨h.1, ih _ _ _ h.2⟩
  exact key _ _ _ _ (sg_sw (fun p hp => hlt p.2 (by simp only [List.mem_append]; exact .inl (.inl (List.mem_map_of_mem hp)))) h)
theorem made_use {s : Sem Next} {Φ : Value → Facts} (hst : Stable Φ) (hsm : StableM n0 Mv Φ) (hrun : ∀ w, C w → ∃ u w', s.run P w = .ok (.value u) w' ∧ Φ u w') {u : Value} {w : World} (h : Made P C n0 Mv s u w) : Φ u w := h Φ hst hsm hrun
theorem made_mk {a : Act} {i : Nat} {o : Oper} (ho : ops[i]? = some o) (hw : Region.wanted o (yielded ops a.tmps) = true)
    (hrun : ∀ w, C w → ∃ u w', (execOp a.eval o).run P w = .ok (.value u) w' ∧ Ext w w' ∧ ∀ b, u.blk = some b → w.heap.size ≤ b ∧ b < w'.heap.size) : Mk P ops C n0 Mv a (i, Made P C n0 Mv (execOp a.eval o)) := by
  refine ⟨o, ho, hw, fun u w w' h he Φ h1 h2 h3 => h1 _ _ _ (h Φ h1 h2 h3) he, fun u w w' h hb hm Φ h1 h2 h3 => h2 _ _ _ (h Φ h1 h2 h3) hb hm, fun w hC => ?_⟩
  obtain ⟨u, w', hr, he, hb⟩ := hrun w hC
  rw [hr]
  refine ⟨he, fun Φ h1 h2 h3 => ?_, hb⟩
  obtain ⟨u', w'', hr', hΦ⟩ := h3 w hC
  rw [hr] at hr'
  simp only [Result.ok.injEq, Next.value.injEq] at hr'
  obtain ⟨rfl, rfl⟩ := hr'
  exact hΦ
section
variable {w0 : World} {lo po τo qo : List Oper} {S : List (List Oper × Knd × Nat)} {Dt : World → Prop}
abbrev TT (P : Program) (ops : Array Oper) (w0 : World) (Q : Exit → Act → World → Prop) (lo po : List Oper) : Act → Facts → Prop := fun a F => PL P ops (fun a3 => ∀ w', Ext w0 w' → F w' → wpList P ops (only Q) lo a3 w') po a
theorem TT.anti (a : Act) (F F' : Facts) (hF : ∀ w, F' w → F w) (h : TT P ops w0 Q lo po a F) : TT P ops w0 Q lo po a F' := PL.mono (fun _ h3 w' hw hF' => h3 w' hw (hF w' hF')) h
theorem sg_last {T : Act → Facts → Prop} {lo : List Oper} {a : Act} {F : Facts} {B : Blks} (h : QL P ops C (fun a' => T a' F) lo a) : SG P ops C n0 Mv I D Ψ T lo [] a F B := h
theorem sg_m {T : Act → Facts → Prop} {lo qo : List Oper} {i : Nat} {S : List (List Oper × Knd × Nat)} {a : Act} {F : Facts} {B : Blks} (h : QL P ops C (fun a' => ∃ o, ops[i]? = some o ∧ Mk P ops C n0 Mv a' (i, fact P C n0 Mv Ψ i o a') ∧ (∀ u w, fact P C n0 Mv Ψ i o a' u w → (shpOf Ψ i o).ok u) ∧ ∀ u, (∀ b, u.blk = some b → n0 ≤ b ∧ ¬ B b) → (shpOf Ψ i o).ok u → SG P ops C n0 Mv I D Ψ T lo S (a'.put o.dst u) (fun w => F w ∧ fact P C n0 Mv Ψ i o a' u w) (fun b => B b ∨ u.blk = some b)) qo a) : SG P ops C n0 Mv I D Ψ T lo ((qo, .m, i) :: S) a F B := h
/-- a maker of a slice over a new block -/
theorem sg_sl {a : Act} {F : Facts} {B : Blks} {i : Nat} {o : Oper} (O : Obj) (n : Nat) (hΨ : Ψ i = none) (ho : ops[i]? = some o) (hso : o.shp0 = .sl n n) (hw : Region.wanted o (yielded ops a.tmps) = true)
    (hrun : ∀ d, (execOp a.eval o).run P (w0.ext d) = .ok (.value (.slice (some ⟨(w0.ext d).heap.size, 0, .none⟩) n n)) ((w0.ext d).alloc O))
    (h : ∀ b, n0 ≤ b → ¬ B b → ∀ K : Act → Prop, (∀ a, SG P ops (fun w' => ∃ d, w' = w0.ext d) n0 NoMv (fun _ => False) (fun w' => ∃ d, w' = w0.ext d) Ψ (TT P ops w0 Q lo po) qo S a (fun w => F w ∧ w.heap[b]? = some O) (fun b' => B b' ∨ b = b') → K a) → K (a.put o.dst (.slice (some ⟨b, 0, .none⟩) n n))) :
    ∃ o, ops[i]? = some o ∧ Mk P ops (fun w' => ∃ d, w' = w0.ext d) n0 NoMv a (i, fact P (fun w' => ∃ d, w' = w0.ext d) n0 NoMv Ψ i o a) ∧ (∀ u w, fact P (fun w' => ∃ d, w' = w0.ext d) n0 NoMv Ψ i o a u w → (shpOf Ψ i o).ok u) ∧ ∀ u, (∀ b, u.blk = some b → n0 ≤ b ∧ ¬ B b) → (shpOf Ψ i o).ok u → SG P ops (fun w' => ∃ d, w' = w0.ext d) n0 NoMv (fun _ => False) (fun w' => ∃ d, w' = w0.ext d) Ψ (TT P ops w0 Q lo po) qo S (a.put o.dst u) (fun w => F w ∧ fact P (fun w' => ∃ d, w' = w0.ext d) n0 NoMv Ψ i o a u w) (fun b => B b ∨ u.blk = some b) := by
  have hf : fact P (fun w' => ∃ d, w' = w0.ext d) n0 NoMv Ψ i o a = Made P (fun w' => ∃ d, w' = w0.ext d) n0 NoMv (execOp a.eval o) := by unfold fact; rw [hΨ]
  have hss : shpOf Ψ i o = o.shp0 := by unfold shpOf; rw [hΨ]
  refine ⟨o, ho, ?_, ?_, fun u hu hv => ?_⟩
  · rw [hf]
    refine made_mk ho hw ?_
    rintro w ⟨d, rfl⟩
    refine ⟨_, _, hrun d, Ext.alloc (Ext.refl _) O, fun b hb => ?_⟩
    simp only [Value.blk, Option.some.injEq] at hb
    subst hb
    rw [World.size_alloc]; omega
  · rw [hf, hss, hso]
    intro u w hu
    obtain ⟨b, hb, _⟩ := made_use (stable_sl O n) stableM_none (fun w ⟨d, hd⟩ => by subst hd; exact ⟨_, _, hrun d, ⟨_, rfl, heap_alloc_new _ _⟩⟩) hu
    exact ⟨b, hb⟩
  · rw [hf]
    rw [hss, hso] at hv
    obtain ⟨b, rfl⟩ := hv
    have hb := hu b rfl
    have := h b hb.1 hb.2 _ fun _ h => h
    have e : (fun b' => B b' ∨ (Value.slice (some ⟨b, 0, .none⟩) n n).blk = some b') = (fun b' => B b' ∨ b = b') := by funext b'; simp [Value.blk]
    rw [e]
    refine SG.mono (fun a F F' => TT.anti a F F') (fun w hw => ⟨hw.1, ?_⟩) this
    obtain ⟨b', hb', hh⟩ := made_use (stable_sl O n) stableM_none (fun w ⟨d, hd⟩ => by subst hd; exact ⟨_, _, hrun d, ⟨_, rfl, heap_alloc_new _ _⟩⟩) hw.2
    simp only [Value.slice.injEq, Value.pointer.injEq, Option.some.injEq, Addr.mk.injEq, and_true] at hb'
    subst hb'
    exact hh
/-- a maker of a pointer to a new block -/
theorem sg_ptr {a : Act} {F : Facts} {B : Blks} {i : Nat} {o : Oper} (O : Obj) (hΨ : Ψ i = none) (ho : ops[i]? = some o) (hso : o.shp0 = .ptr) (hw : Region.wanted o (yielded ops a.tmps) = true)
    (hrun : ∀ d, (execOp a.eval o).run P (w0.ext d) = .ok (.value (.pointer (some ⟨(w0.ext d).heap.size, 0, .none⟩))) ((w0.ext d).alloc O))
    (h : ∀ b, n0 ≤ b → ¬ B b → ∀ K : Act → Prop, (∀ a, SG P ops (fun w' => ∃ d, w' = w0.ext d) n0 NoMv (fun _ => False) (fun w' => ∃ d, w' = w0.ext d) Ψ (TT P ops w0 Q lo po) qo S a (fun w => F w ∧ w.heap[b]? = some O) (fun b' => B b' ∨ b = b') → K a) → K (a.put o.dst (.pointer (some ⟨b, 0, .none⟩)))) :
    ∃ o, ops[i]? = some o ∧ Mk P ops (fun w' => ∃ d, w' = w0.ext d) n0 NoMv a (i, fact P (fun w' => ∃ d, w' = w0.ext d) n0 NoMv Ψ i o a) ∧ (∀ u w, fact P (fun w' => ∃ d, w' = w0.ext d) n0 NoMv Ψ i o a u w → (shpOf Ψ i o).ok u) ∧ ∀ u, (∀ b, u.blk = some b → n0 ≤ b ∧ ¬ B b) → (shpOf Ψ i o).ok u → SG P ops (fun w' => ∃ d, w' = w0.ext d) n0 NoMv (fun _ => False) (fun w' => ∃ d, w' = w0.ext d) Ψ (TT P ops w0 Q lo po) qo S (a.put o.dst u) (fun w => F w ∧ fact P (fun w' => ∃ d, w' = w0.ext d) n0 NoMv Ψ i o a u w) (fun b => B b ∨ u.blk = some b) := by
  have hf : fact P (fun w' => ∃ d, w' = w0.ext d) n0 NoMv Ψ i o a = Made P (fun w' => ∃ d, w' = w0.ext d) n0 NoMv (execOp a.eval o) := by unfold fact; rw [hΨ]
  have hss : shpOf Ψ i o = o.shp0 := by unfold shpOf; rw [hΨ]
  refine ⟨o, ho, ?_, ?_, fun u hu hv => ?_⟩
  · rw [hf]
    refine made_mk ho hw ?_
    rintro w ⟨d, rfl⟩
    refine ⟨_, _, hrun d, Ext.alloc (Ext.refl _) O, fun b hb => ?_⟩
    simp only [Value.blk, Option.some.injEq] at hb
    subst hb
    rw [World.size_alloc]; omega
  · rw [hf, hss, hso]
    intro u w hu
    obtain ⟨b, hb, _⟩ := made_use (stable_ptr O) stableM_none (fun w ⟨d, hd⟩ => by subst hd; exact ⟨_, _, hrun d, ⟨_, rfl, heap_alloc_new _ _⟩⟩) hu
    exact ⟨b, hb⟩
  · rw [hf]
    rw [hss, hso] at hv
    obtain ⟨b, rfl⟩ := hv
    have hb := hu b rfl
    have := h b hb.1 hb.2 _ fun _ h => h
    have e : (fun b' => B b' ∨ (Value.pointer (some ⟨b, 0, .none⟩)).blk = some b') = (fun b' => B b' ∨ b = b') := by funext b'; simp [Value.blk]
    rw [e]
    refine SG.mono (fun a F F' => TT.anti a F F') (fun w hw => ⟨hw.1, ?_⟩) this
    obtain ⟨b', hb', hh⟩ := made_use (stable_ptr O) stableM_none (fun w ⟨d, hd⟩ => by subst hd; exact ⟨_, _, hrun d, ⟨_, rfl, heap_alloc_new _ _⟩⟩) hw.2
    simp only [Value.slice.injEq, Value.pointer.injEq, Option.some.injEq, Addr.mk.injEq, and_true] at hb'
    subst hb'
    exact hh
/-- a call that hands back something new; its fact stands in Ψ -/
theorem sg_call {Sg : List (List Oper × Knd × Nat)} {a : Act} {F : Facts} {B : Blks} {i : Nat} {o : Oper} {f : FuncId} {fn : Func} {xs : List Operand} {args : List Value} {ats : Array TypeId} (Φ : Value → Facts) (S : Shp) (hΨ : Ψ i = some (Φ, S)) (hso : ∀ u w, Φ u w → S.ok u) (hst : Stable Φ)
    (hc : ∀ d, Calls P f args.toArray (w0.ext d) fun e w' => ∃ u, e = .returned u ∧ Ext (w0.ext d) w' ∧ Φ u w' ∧ ∀ b, u.blk = some b → (w0.ext d).heap.size ≤ b ∧ b < w'.heap.size)
    (ho : ops[i]? = some o) (hop : o.op = .call { callee := .value (.func f), args := xs.toArray, argTypes := ats }) (hargs : xs.map a.eval = args)
    (hf : P.funcs[f]? = some fn) (hb : fn.body.isNone = false) (hn : (fn.name == "runtime.NumGoroutine") = false) (hw : Region.wanted o (yielded ops a.tmps) = true)
    (h : ∀ u, (∀ b, u.blk = some b → n0 ≤ b ∧ ¬ B b) → S.ok u → ∀ K : Act → Prop, (∀ a, SG P ops (fun w' => ∃ d, w' = w0.ext d) n0 NoMv (fun _ => False) (fun w' => ∃ d, w' = w0.ext d) Ψ (TT P ops w0 Q lo po) qo Sg a (fun w => F w ∧ Φ u w) (fun b => B b ∨ u.blk = some b) → K a) → K (a.put o.dst u)) :
    ∃ o, ops[i]? = some o ∧ Mk P ops (fun w' => ∃ d, w' = w0.ext d) n0 NoMv a (i, fact P (fun w' => ∃ d, w' = w0.ext d) n0 NoMv Ψ i o a) ∧ (∀ u w, fact P (fun w' => ∃ d, w' = w0.ext d) n0 NoMv Ψ i o a u w → (shpOf Ψ i o).ok u) ∧ ∀ u, (∀ b, u.blk = some b → n0 ≤ b ∧ ¬ B b) → (shpOf Ψ i o).ok u → SG P ops (fun w' => ∃ d, w' = w0.ext d) n0 NoMv (fun _ => False) (fun w' => ∃ d, w' = w0.ext d) Ψ (TT P ops w0 Q lo po) qo Sg (a.put o.dst u) (fun w => F w ∧ fact P (fun w' => ∃ d, w' = w0.ext d) n0 NoMv Ψ i o a u w) (fun b => B b ∨ u.blk = some b) := by
  have hfa : fact P (fun w' => ∃ d, w' = w0.ext d) n0 NoMv Ψ i o a = Φ := by unfold fact; rw [hΨ]
  have hss : shpOf Ψ i o = S := by unfold shpOf; rw [hΨ]
  refine ⟨o, ho, ?_, ?_, fun u hu hv => ?_⟩
  · rw [hfa]; exact mk_call hst hc ho hop hargs hf hb hn hw
  · rw [hfa, hss]; exact hso
  · rw [hfa]
    rw [hss] at hv
    exact h u hu hv _ fun _ h => h
end
end
/-- append onto a row of the call's own -/
theorem wpList_append_row {P : Program} (w : World) {ops : Array Oper} {rest : List Oper} {o : Oper} {a : Act} {Q : Exit → Act → World → Prop} (s x : Operand) (t : TypeId)
    (e : TypeId) (z : Value) (size bytes : Nat) (hinfo : (P.info? e).map (fun i => (i.zero, i.size, i.bytes)) = some (some z, size, bytes)) (ht : P.underlying t = some (.slice e)) (hzs : z.cells.size = size) (hsz : 0 < size)
    (base : Nat) (v : Value) (n : Nat) (xs : List Value) (hown : w.ownsRow base e size v n xs)
    (ad : Addr) (m c : Nat) (news : List Value) (hm : 0 < m) (hl : news.length = m * size) (hnews : ∀ j u, news[j]? = some u → w.cell? (ad.add j) = some u) (h1 : ∀ u ∈ news, u.oneCell' = true)
    (h63 : n + m ≤ maxLen) (hbytes : (n + m) * bytes ≤ 140737488355328) (hbase : base ≤ w.heap.size)
    (hgd : o.guard = none) (ho : o.op = .call { callee := .builtin .append, args := #[s, x], argTypes := #[t, t] }) (hs : a.eval s = v) (hx : a.eval x = .slice (some ad) m c)
    (h : ∀ g c' w', w'.ownsRow base e size (.slice (some ⟨g, 0, none⟩) (n + m) c') (n + m) (xs ++ news) → w.grownBy w' v.ownBlock → wpList P ops Q rest (a.put o.dst (.slice (some ⟨g, 0, none⟩) (n + m) c')) w') : wpList P ops Q (o :: rest) a w := by
  obtain ⟨i, hi, hz, hi1, hi2⟩ := info_parts hinfo
  refine wpList_append_own (w := w) hgd s x t ho base e i z size bytes ht hi hz hi1 hi2 hzs hsz v n xs hs hown ad m c news hx hl hnews h1 h63 hbytes hbase ?_
  intro v' w' hown' hg hnil
  rcases hown'.2 with ⟨_, h0⟩ | ⟨g, cap, cur, rfl, _⟩
  · omega
  · exact h g cap w' hown' hg
end Go
namespace Go
open Go.RowKit
section
variable {P : Program} {ops : Array Oper} {C : World → Prop} {n0 : Nat} {Mv : World → World → Prop} {I D : World → Prop} {Q : Exit → Act → World → Prop} {Ψ : Nat → Option ((Value → Facts) × Shp)}
section
variable {w0 : World} {lo po τo qo : List Oper} {S : List (List Oper × Knd × Nat)} {Dt : World → Prop}
/-- any operation that hands back something new; its fact stands in Ψ -/
theorem sg_run {Sg : List (List Oper × Knd × Nat)} {a : Act} {F : Facts} {B : Blks} {i : Nat} {o : Oper} (Φ : Value → Facts) (S : Shp) (hΨ : Ψ i = some (Φ, S)) (hso : ∀ u w, Φ u w → S.ok u) (hst : Stable Φ)
    (ho : ops[i]? = some o) (hw : Region.wanted o (yielded ops a.tmps) = true)
    (hrun : ∀ d, ∃ u w', (execOp a.eval o).run P (w0.ext d) = .ok (.value u) w' ∧ Ext (w0.ext d) w' ∧ Φ u w' ∧ ∀ b, u.blk = some b → (w0.ext d).heap.size ≤ b ∧ b < w'.heap.size)
    (h : ∀ u, (∀ b, u.blk = some b → n0 ≤ b ∧ ¬ B b) → S.ok u → ∀ K : Act → Prop, (∀ a, SG P ops (fun w' => ∃ d, w' = w0.ext d) n0 NoMv (fun _ => False) (fun w' => ∃ d, w' = w0.ext d) Ψ (TT P ops w0 Q lo po) qo Sg a (fun w => F w ∧ Φ u w) (fun b => B b ∨ u.blk = some b) → K a) → K (a.put o.dst u)) :
    ∃ o, ops[i]? = some o ∧ Mk P ops (fun w' => ∃ d, w' = w0.ext d) n0 NoMv a (i, fact P (fun w' => ∃ d, w' = w0.ext d) n0 NoMv Ψ i o a) ∧ (∀ u w, fact P (fun w' => ∃ d, w' = w0.ext d) n0 NoMv Ψ i o a u w → (shpOf Ψ i o).ok u) ∧ ∀ u, (∀ b, u.blk = some b → n0 ≤ b ∧ ¬ B b) → (shpOf Ψ i o).ok u → SG P ops (fun w' => ∃ d, w' = w0.ext d) n0 NoMv (fun _ => False) (fun w' => ∃ d, w' = w0.ext d) Ψ (TT P ops w0 Q lo po) qo Sg (a.put o.dst u) (fun w => F w ∧ fact P (fun w' => ∃ d, w' = w0.ext d) n0 NoMv Ψ i o a u w) (fun b => B b ∨ u.blk = some b) := by
  have hfa : fact P (fun w' => ∃ d, w' = w0.ext d) n0 NoMv Ψ i o a = Φ := by unfold fact; rw [hΨ]
  have hss : shpOf Ψ i o = S := by unfold shpOf; rw [hΨ]
  refine ⟨o, ho, ?_, ?_, fun u hu hv => ?_⟩
  · rw [hfa]
    refine ⟨o, ho, hw, hst, stableM_none, fun w ⟨d, hd⟩ => ?_⟩
    subst hd
    obtain ⟨u, w', hr, he, hΦ, hb⟩ := hrun d
    rw [hr]
    exact ⟨he, hΦ, hb⟩
  · rw [hfa, hss]; exact hso
  · rw [hfa]
    rw [hss] at hv
    exact h u hu hv _ fun _ h => h
end
end
@[go_sem] theorem lt_peel11 (a b qc qd qe qf qg qh qi qj qk ql qm : Nat) (h : a < b) : (a < b + qc + qd + qe + qf + qg + qh + qi + qj + qk + ql + qm) = True := eq_true (by omega)
@[go_sem] theorem lt_peel12 (a b qc qd qe qf qg qh qi qj qk ql qm qn : Nat) (h : a < b) : (a < b + qc + qd + qe + qf + qg + qh + qi + qj + qk + ql + qm + qn) = True := eq_true (by omega)
@[go_sem] theorem lt_peel13 (a b qc qd qe qf qg qh qi qj qk ql qm qn qo : Nat) (h : a < b) : (a < b + qc + qd + qe + qf + qg + qh + qi + qj + qk + ql + qm + qn + qo) = True := eq_true (by omega)
@[go_sem] theorem lt_peel14 (a b qc qd qe qf qg qh qi qj qk ql qm qn qo qp : Nat) (h : a < b) : (a < b + qc + qd + qe + qf + qg + qh + qi + qj + qk + ql + qm + qn + qo + qp) = True := eq_true (by omega)
@[go_sem] theorem lt_peel15 (a b qc qd qe qf qg qh qi qj qk ql qm qn qo qp qr : Nat) (h : a < b) : (a < b + qc + qd + qe + qf + qg + qh + qi + qj + qk + ql + qm + qn + qo + qp + qr) = True := eq_true (by omega)
@[go_sem] theorem lt_peel16 (a b qc qd qe qf qg qh qi qj qk ql qm qn qo qp qr qs : Nat) (h : a < b) : (a < b + qc + qd + qe + qf + qg + qh + qi + qj + qk + ql + qm + qn + qo + qp + qr + qs) = True := eq_true (by omega)
/-- a new row -/
def AppF (B : Nat) (e : TypeId) (size n : Nat) (xs : List Value) (u : Value) : Facts := fun w => ∃ g c, u = .slice (some ⟨g, 0, none⟩) n c ∧ w.ownsRow B e size u n xs
def AppS (n : Nat) : Shp := .of (fun u => ∃ a c, u = .slice a n c) (.slice none n 0) ⟨none, 0, rfl⟩ rfl
theorem AppF.stable (B : Nat) (e : TypeId) (size n : Nat) (xs : List Value) : Stable (AppF B e size n xs) := fun _ _ _ ⟨g, c, h1, h2⟩ he => ⟨g, c, h1, ownsRow_ext h2 he⟩
theorem AppF.shp {B : Nat} {e : TypeId} {size n : Nat} {xs : List Value} : ∀ u w, AppF B e size n xs u w → (AppS n).ok u := fun _ _ ⟨g, c, h, _⟩ => ⟨_, c, h⟩
/-- append onto nil, as an operation of a drawn region -/
theorem app_run {P : Program} {o : Oper} {a : Act} {W : World} {B : Nat} (s x : Operand) (t e : TypeId) (z : Value) (size bytes : Nat) (hinfo : (P.info? e).map (fun i => (i.zero, i.size, i.bytes)) = some (some z, size, bytes)) (ht : P.underlying t = some (.slice e)) (hzs : z.cells.size = size) (hsz : 0 < size)
    (ad : Addr) (m c : Nat) (news : List Value) (hm : 0 < m) (hl : news.length = m * size) (hnews : ∀ j u, news[j]? = some u → W.cell? (ad.add j) = some u) (h1 : ∀ u ∈ news, u.oneCell' = true)
    (h63 : m ≤ maxLen) (hbytes : m * bytes ≤ 140737488355328) (ho : o.op = .call { callee := .builtin .append, args := #[s, x], argTypes := #[t, t] }) (hs : a.eval s = .slice none 0 0) (hx : a.eval x = .slice (some ad) m c) (hB : B ≤ W.heap.size) :
    ∃ u w', (execOp a.eval o).run P W = .ok (.value u) w' ∧ Ext W w' ∧ AppF B e size m news u w' ∧ ∀ b, u.blk = some b → W.heap.size ≤ b ∧ b < w'.heap.size := by
  obtain ⟨i, hi, hz, hi1, hi2⟩ := info_parts hinfo
  obtain ⟨v', w', hr, h2, h3, h4⟩ := run_append_own (P := P) W W.heap.size t o.type e i z size bytes ht hi hz hi1 hi2 hzs hsz _ 0 [] (World.ownsRow_nil _ _ _ _) ad m c news hl hnews h1 (by omega) (by simpa using hbytes) (Nat.le_refl _)
  rw [List.nil_append, Nat.zero_add] at h2
  obtain ⟨g, c', rfl⟩ := ownsRow_pos h2 hm
  refine ⟨_, w', ?_, Ext.of_grown (Ext.refl W) h3 (fun k hk => by simp [Value.ownBlock] at hk), ⟨g, c', rfl, ?_⟩, fun b hb => ?_⟩
  · unfold execOp
    simp only [ho, resolve, invoke, builtin, Sem.run_bind, Sem.run_pure, Result.andThen_ok, List.map_toArray, List.map_cons, List.map_nil, hs, hx, hr]
  · refine ⟨h2.1, ?_⟩
    rcases h2.2 with h5 | ⟨g', cap, cur, hv, hb, r⟩
    · exact .inl h5
    · exact .inr ⟨g', cap, cur, hv, Nat.le_trans hB hb, r⟩
  · obtain rfl : g = b := by simpa [Value.blk] using hb
    exact h2.lt g rfl
theorem heap_new (W : World) (O : Obj) {k : Nat} (hk : k = W.heap.size) : (W.alloc O).heap[k]? = some O := hk ▸ heap_alloc_new W O
theorem heap_ext1 {W : World} {d : Grow} {O : Obj} {k : Nat} (h : W.heap[k]? = some O) : (W.ext d).heap[k]? = some O := heap_some_ext h (Ext.ext (Ext.refl _) d)
theorem heap_alloc1 {W : World} {O' O : Obj} {k : Nat} (h : W.heap[k]? = some O) : (W.alloc O').heap[k]? = some O := heap_some_ext h (Ext.alloc (Ext.refl _) O')
end Go
