/- The evaluator: what its heap says of a world; operands; what an operation's run is to show. -/
import Derived.Test.YtjefclbjjcglkaaGreatDoorEv1
import Derived.RangeFuncRecord
import Derived.Deep.MidRow
import Derived.Laws.CopyRow
import Derived.Laws.Append
import Derived.Laws.AppendOwn
set_option linter.unusedVariables false
set_option linter.unusedSimpArgs false
namespace Go.Ev
open Go
/-! ### types -/
def TDok : TD → TypeDesc → Prop
  | .int k, d => d = .int k
  | .str, d => d = .string
  | .bool, d => d = .bool
  | .ptr e, d => d = .pointer e
  | .slice e, d => d = .slice e
  | .array n e, d => d = .array n e
  | .struct fs, d => ∃ F : Array Field, d = .struct F ∧ fs = F.toList.map fun f => (f.offset, f.type)
  | .map k e, d => d = .map k e
  | .func, d => ∃ a b c, d = .func a b c
  | .sc, d => d.isRow = false
structure TIok (P : Program) (t : TypeId) (ti : TI) : Prop where
  und : ∃ d, P.underlying t = some d ∧ TDok ti.d d
  info : ∃ i z, P.info? t = some i ∧ i.size = ti.sz ∧ i.bytes = ti.by_ ∧ i.zero = some z ∧ ti.z.length = ti.sz ∧
    (isAgg ti.d = true → ∃ vs : List Value, z = .agg vs.toArray ∧ ∀ φ, A2 (CR φ) ti.z vs) ∧ (isAgg ti.d = false → ∃ x, ti.z = [x] ∧ ∀ φ, CR φ x z)
  flds : ∀ F, P.underlying t = some (.struct F) → ∀ f, f ∈ F.toList → (P.info? f.type).isSome = true
section
variable {P : Program} {t : TypeId} {ti : TI}
theorem TIok.size (h : TIok P t ti) (w : World) : (sizeOf t).run P w = .ok ti.sz w := by
  obtain ⟨i, z, h1, h2, _⟩ := h.info
  simp [sizeOf, typeInfo, h1, h2]
theorem TIok.isRow (h : TIok P t ti) {d : TypeDesc} (hd : P.underlying t = some d) : d.isRow = isAgg ti.d := by
  obtain ⟨d', h1, h2⟩ := h.und
  rw [hd] at h1
  obtain rfl := Option.some.inj h1
  cases hq : ti.d with
  | sc => rw [hq] at h2; exact h2
  | func => rw [hq] at h2; obtain ⟨a, b, c, rfl⟩ := h2; rfl
  | struct fs => rw [hq] at h2; obtain ⟨F, rfl, _⟩ := h2; rfl
  | _ => rw [hq] at h2; cases h2; rfl
theorem TIok.agg (h : TIok P t ti) (w : World) : (Go.isAgg t).run P w = .ok (isAgg ti.d) w := by
  obtain ⟨d, h1, _⟩ := h.und
  rw [← h.isRow h1]
  unfold Go.isAgg
  rw [Sem.run_bind, run_underlying h1]
  cases d <;> simp [TypeDesc.isRow]
theorem TIok.zero (h : TIok P t ti) : ∃ z, (∀ w, (zeroValue t).run P w = .ok z w) ∧ z.cells.size = ti.sz ∧ (∀ φ, A2 (CR φ) ti.z z.cells.toList) ∧ (isAgg ti.d = true → ∀ φ, SR φ (.agg ti.z) z) ∧ (isAgg ti.d = false → ∃ x, ti.z = [x] ∧ ∀ φ, SR φ (.c x) z) := by
  obtain ⟨i, z, h1, h2, h3, h4, h5, h6, h7⟩ := h.info
  refine ⟨z, fun w => by simp [zeroValue, typeInfo, h1, h4], ?_, ?_, ?_, ?_⟩
  · cases hq : isAgg ti.d with
    | true => obtain ⟨vs, rfl, k⟩ := h6 hq; have := (k ⟨fun _ => none, fun _ => none, fun _ => 0⟩).len; simp [Value.cells]; omega
    | false =>
      obtain ⟨x, e, k⟩ := h7 hq
      rw [(CR.one (k ⟨fun _ => none, fun _ => none, fun _ => 0⟩)).2, ← h5, e]; rfl
  · intro φ
    cases hq : isAgg ti.d with
    | true => obtain ⟨vs, rfl, k⟩ := h6 hq; simpa [Value.cells] using k φ
    | false =>
      obtain ⟨x, e, k⟩ := h7 hq
      rw [(CR.one (k φ)).2, e]; exact .cons (k φ) .nil
  · intro hq φ; obtain ⟨vs, e, k⟩ := h6 hq; exact ⟨vs, e, k φ⟩
  · intro hq; obtain ⟨x, e, k⟩ := h7 hq; exact ⟨x, e, k⟩
end
/-! ### the heap -/
def Cov (φ : Ph) (c : Array Value) (f : Nat) (l : List CV) : Prop := ∀ i x, l[i]? = some x → ∃ v, c[f + i]? = some v ∧ CR φ x v
structure MR (φ : Ph) (e : ME) (m : MapEntry) : Prop where
  k : CR φ e.k m.key
  v : SR φ e.v m.val
  c : m.born = e.c
def TMR (φ : Ph) (tm : TM) (tmps : Array Value) : Prop := ∀ t x, tm.get t = some x → AR φ x (tmps.getD t undef)
structure LR (φ : Ph) (r : LoopR) (l : Loop) : Prop where
  st : l.state = r.st
  pend : l.pending = r.pend
  fn : l.fn = r.fn
  tmps : TMR φ r.tmps l.tmps
  ps : l.params.toList = r.ps
  assign : l.assign = r.assign
  body : l.body = r.body
  dfr : ∃ b f S, φ.blk r.dfr = some (b, f, S) ∧ l.defers = b
  szP : ∀ p, p ∈ r.ps → p < l.tmps.size
  sz : r.nt ≤ l.tmps.size
def OR (φ : Ph) (o : AO) (n : Nat) (w : World) : Prop :=
  match o with
  | .cells l _ => ∃ b f c T, φ.blk n = some (b, f, c.size) ∧ w.heap[b]? = some (.cells c T (0, 0)) ∧ Cov φ c f l ∧ f + l.length ≤ c.size
  | .ro l => ∃ b f c T fz, φ.blk n = some (b, f, c.size) ∧ w.heap[b]? = some (.cells c T fz) ∧ Cov φ c f l
  | .map l clk => ∃ b f S es, φ.blk n = some (b, f, S) ∧ w.heap[b]? = some (.map es clk) ∧ A2 (MR φ) l es.toList
  | .loop r => ∃ b f S l, φ.blk n = some (b, f, S) ∧ w.heap[b]? = some (.loop l) ∧ LR φ r l
  | .dfr c => ∃ b f S, φ.blk n = some (b, f, S) ∧ w.heap[b]? = some (.deferred (if c then some [] else none))
  | .caps l => ∃ vs, φ.cap n = some vs ∧ A2 (SR φ) l vs.toList
def AO.own : AO → Bool
  | .ro _ => false
  | .caps _ => false
  | _ => true
def AO.sib : AO → Option Nat
  | .cells _ s => s
  | _ => none
structure Base where
  W0 : World
  F : Nat → Prop
  Q : Nat → Prop
structure HR (B : Base) (φ : Ph) (g : Nat → Option AO) (w : World) : Prop where
  keep : ∀ b, B.F b → w.heap[b]? = B.W0.heap[b]?
  fb : (∀ b, B.F b → b < B.W0.heap.size) ∧ ∀ b, B.Q b → B.F b
  size : B.W0.heap.size ≤ w.heap.size
  os : w.os = B.W0.os
  out : w.output = B.W0.output
  tape : w.tape = B.W0.tape
  obj : ∀ n o, g n = some o → OR φ o n w
  own : ∀ n o b x, g n = some o → o.own = true → φ.blk n = some (b, x) → ¬ B.F b
  ro : ∀ n l b x, g n = some (.ro l) → φ.blk n = some (b, x) → B.Q b
  apart : ∀ n m o p b x y, n ≠ m → g n = some o → g m = some p → o.own = true → p.own = true → φ.blk n = some (b, x) → φ.blk m = some (b, y) → o.sib = some m
  lt : ∀ n b x, φ.blk n = some (b, x) → b < w.heap.size
def Glob (φ : Ph) : Prop := ∀ g, g < 3 → ∃ S, φ.blk g = some (g, 0, S)
theorem Glob.mono {φ ψ : Ph} (h : Glob φ) (k : φ.le ψ) : Glob ψ := fun g hg => let ⟨S, h1⟩ := h g hg; ⟨S, k.b _ _ h1⟩
theorem Cov.mono {φ ψ : Ph} (h : φ.le ψ) {c : Array Value} {f : Nat} {l : List CV} (k : Cov φ c f l) : Cov ψ c f l := fun i x hi => let ⟨v, h1, h2⟩ := k i x hi; ⟨v, h1, CR.mono h x v h2⟩
theorem TMR.mono {φ ψ : Ph} (h : φ.le ψ) {tm : TM} {ts : Array Value} (k : TMR φ tm ts) : TMR ψ tm ts := fun t x hx => AR.mono h x _ (k t x hx)
theorem MR.mono {φ ψ : Ph} (h : φ.le ψ) (e : ME) (m : MapEntry) (k : MR φ e m) : MR ψ e m := ⟨CR.mono h _ _ k.k, SR.mono h _ _ k.v, k.c⟩
theorem LR.mono {φ ψ : Ph} (h : φ.le ψ) {r : LoopR} {l : Loop} (k : LR φ r l) : LR ψ r l :=
  ⟨k.st, k.pend, k.fn, k.tmps.mono h, k.ps, k.assign, k.body, let ⟨b, f, S, q, e⟩ := k.dfr; ⟨b, f, S, h.b _ _ q, e⟩, k.szP, k.sz⟩
/-- an object stands in a world in which its block lies as it lay -/
theorem OR.mono {φ ψ : Ph} (h : φ.le ψ) {o : AO} {n : Nat} {w w' : World} (k : OR φ o n w) (hb : ∀ b x, φ.blk n = some (b, x) → w'.heap[b]? = w.heap[b]?) : OR ψ o n w' := by
  cases o with
  | cells l s => obtain ⟨b, f, c, T, q, e, k, z⟩ := k; exact ⟨b, f, c, T, h.b _ _ q, (hb _ _ q).trans e, k.mono h, z⟩
  | ro l => obtain ⟨b, f, c, T, fz, q, e, k⟩ := k; exact ⟨b, f, c, T, fz, h.b _ _ q, (hb _ _ q).trans e, k.mono h⟩
  | map l clk => obtain ⟨b, f, S, es, q, e, k⟩ := k; exact ⟨b, f, S, es, h.b _ _ q, (hb _ _ q).trans e, k.mono (MR.mono h)⟩
  | loop r => obtain ⟨b, f, S, l, q, e, k⟩ := k; exact ⟨b, f, S, l, h.b _ _ q, (hb _ _ q).trans e, k.mono h⟩
  | dfr c => obtain ⟨b, f, S, q, e⟩ := k; exact ⟨b, f, S, h.b _ _ q, (hb _ _ q).trans e⟩
  | caps l => obtain ⟨vs, q, k⟩ := k; exact ⟨vs, h.c _ _ q, k.mono (SR.mono h)⟩
/-! ### operands -/
def On (φ : Ph) (tm : TM) (l : List Operand) (a : Act) : Prop := ∀ t y, Operand.tmp t ∈ l → tm.get t = some y → AR φ y (a.eval (.tmp t))
theorem On.sub {φ : Ph} {tm : TM} {l m : List Operand} {a : Act} (h : On φ tm l a) (k : ∀ x, x ∈ m → x ∈ l) : On φ tm m a := fun t y ht => h t y (k _ ht)
theorem TMR.on {φ : Ph} {tm : TM} {a : Act} (h : TMR φ tm a.tmps) (l : List Operand) : On φ tm l a := fun t y _ hy => h t y hy
theorem ofV1_spec {x : Value} {c : CV} (h : ofV1 x = some c) (φ : Ph) : CR φ c x := by
  unfold ofV1 at h
  split at h <;> first | (cases h; rfl) | cases h
theorem ofVs_spec : ∀ {x : List Value} {c : List CV}, ofVs x = some c → ∀ φ, A2 (CR φ) c x
  | [], c, h, φ => by cases h; exact .nil
  | v :: l, c, h, φ => by
    unfold ofVs at h
    split at h
    · rename_i a ha
      split at h
      · rename_i r hr
        cases h
        exact .cons (ofV1_spec ha φ) (ofVs_spec hr φ)
      · cases h
    · cases h
theorem ofV_spec {x : Value} {c : AV} (h : ofV x = some c) (φ : Ph) : AR φ c x := by
  unfold ofV at h
  split at h
  · rename_i cs
    simp only [Option.map_eq_some_iff] at h
    obtain ⟨l, hl, rfl⟩ := h
    exact ⟨cs.toList, by simp, ofVs_spec hl φ⟩
  · simp only [Option.map_eq_some_iff] at h
    obtain ⟨l, hl, rfl⟩ := h
    exact ofV1_spec hl φ
theorem evK_spec {R : Type} {tm : TM} {x : Operand} {K : AV → Option R} {r : R} (h : evK tm x K = some r) : ∃ v, K v = some r ∧ ∀ φ a, Glob φ → On φ tm [x] a → AR φ v (a.eval x) := by
  cases x with
  | tmp t =>
    obtain ⟨v, h1, h2⟩ := ob_some h
    exact ⟨v, h2, fun φ a _ ho => ho t v (by simp) h1⟩
  | const v =>
    obtain ⟨c, h1, h2⟩ := ob_some h
    exact ⟨c, h2, fun φ a _ _ => ofV_spec h1 φ⟩
  | global g =>
    obtain ⟨h1, h2⟩ := bf_some h
    refine ⟨_, h2, fun φ a hg _ => ?_⟩
    obtain ⟨S, q⟩ := hg g (by simpa [Nat.blt_eq] using h1)
    exact ⟨g, 0, S, q, rfl⟩
  | func f => exact ⟨_, h, fun φ a _ _ => rfl⟩
theorem evC_spec {R : Type} {tm : TM} {x : Operand} {K : CV → Option R} {r : R} (h : evC tm x K = some r) : ∃ v, K v = some r ∧ ∀ φ a, Glob φ → On φ tm [x] a → CR φ v (a.eval x) := by
  obtain ⟨v, h1, h2⟩ := evK_spec h
  obtain ⟨c, rfl, h3⟩ := withC_spec h1
  exact ⟨c, h3, h2⟩
theorem evs_spec {R : Type} {tm : TM} : ∀ {l : List Operand} {K : List AV → Option R} {r : R}, evs tm l K = some r → ∃ vs, K vs = some r ∧ ∀ φ a, Glob φ → On φ tm l a → A2 (AR φ) vs (l.map a.eval)
  | [], K, r, h => ⟨[], h, fun φ a _ _ => .nil⟩
  | x :: l, K, r, h => by
    obtain ⟨v, h1, h2⟩ := evK_spec (K := fun v => evs tm l fun l => K (v :: l)) h
    obtain ⟨vs, h3, h4⟩ := evs_spec h1
    exact ⟨v :: vs, h3, fun φ a hg ho => .cons (h2 φ a hg (ho.sub (by simp))) (h4 φ a hg (ho.sub fun x hx => by simp [hx]))⟩
theorem evsS_spec {R : Type} {tm : TM} : ∀ {l : List Operand} {K : List AS → Option R} {r : R}, evsS tm l K = some r → ∃ vs, K vs = some r ∧ ∀ φ a, Glob φ → On φ tm l a → A2 (SR φ) vs (l.map a.eval)
  | [], K, r, h => ⟨[], h, fun φ a _ _ => .nil⟩
  | x :: l, K, r, h => by
    obtain ⟨v, h1, h2⟩ := evK_spec (K := fun v => toS v fun v => evsS tm l fun l => K (v :: l)) h
    obtain ⟨s, h5, h6⟩ := toS_spec h1
    obtain ⟨vs, h3, h4⟩ := evsS_spec h5
    exact ⟨s :: vs, h3, fun φ a hg ho => .cons ((h6 _ _).1 (h2 φ a hg (ho.sub (by simp)))) (h4 φ a hg (ho.sub fun x hx => by simp [hx]))⟩
theorem oev_spec {R : Type} {tm : TM} {x : Option Operand} {K : Option AV → Option R} {r : R} (h : oev tm x K = some r) : ∃ v, K v = some r ∧ ∀ φ a, Glob φ → On φ tm x.toList a → (v = none ∧ x.map a.eval = none) ∨ ∃ y z, v = some y ∧ x.map a.eval = some z ∧ AR φ y z := by
  cases x with
  | none => exact ⟨none, h, fun φ a _ _ => .inl ⟨rfl, rfl⟩⟩
  | some x =>
    obtain ⟨v, h1, h2⟩ := evK_spec (K := fun v => K (some v)) h
    exact ⟨some v, h1, fun φ a hg ho => .inr ⟨v, _, rfl, rfl, h2 φ a hg (by simpa using ho)⟩⟩
/-! ### what an operation's run is to show -/
abbrev GM := Nat → Option AO
def GM.set (g : GM) (n : Nat) (o : Option AO) : GM := fun m => if m = n then o else g m
def Aft (B : Base) (φ : Ph) (g' : GM) (N : Nat → Prop) (v : AV) (v' : Value) (w2 : World) : Prop :=
  ∃ ψ : Ph, φ.le ψ ∧ (∀ m, ¬ N m → ψ.blk m = φ.blk m ∧ ψ.cap m = φ.cap m) ∧ HR B ψ g' w2 ∧ AR ψ v v'
def NS (P : Program) (B : Base) (φ : Ph) (g' : GM) (N : Nat → Prop) (v : AV) : Next → World → Prop
  | .value v', w => Aft B φ g' N v v' w
  | .skip, w => Aft B φ g' N v undef w
  | .enter f args, w => ∃ v' w2 fr, Aft B φ g' N v v' w2 ∧ fr.fn = f ∧ fr.leaving P w2 (.returned v') ∧ ∀ cs, Steps P (lone (Frame.enter P f args .normal) cs w) (lone fr cs w2)
  | .round l f tmps as bd, w => ∃ v' w2, Aft B φ g' N v v' w2 ∧ ∀ c cs, Steps P (lone (Frame.round l f tmps as bd .normal) (c :: cs) w) (lone (c.finish v') cs w2)
  | _, _ => False
def Fresh (φ : Ph) (N : Nat → Prop) : Prop := ∀ m, N m → φ.blk m = none ∧ φ.cap m = none
def OpS (P : Program) (o : Oper) (tm : TM) (g : GM) (v : AV) (g' : GM) (N : Nat → Prop) : Prop :=
  ∀ (B : Base) (φ : Ph) (a : Act) (w : World), HR B φ g w → Glob φ → On φ tm o.op.operands.toList a → Fresh φ N → ∃ y w1, (execOp a.eval o).run P w = .ok y w1 ∧ NS P B φ g' N v y w1
def No : Nat → Prop := fun _ => False
/-- an operation that looks at temporaries alone -/
def OpP (P : Program) (o : Oper) (tm : TM) (v : AV) : Prop :=
  ∀ (φ : Ph) (a : Act) (w : World), Glob φ → On φ tm o.op.operands.toList a → ∃ y, (execOp a.eval o).run P w = .ok (.value y) w ∧ AR φ v y
theorem OpP.s {P : Program} {o : Oper} {tm : TM} {v : AV} (h : OpP P o tm v) (g : GM) : OpS P o tm g v g No := by
  intro B φ a w hr hg ho _
  obtain ⟨y, h1, h2⟩ := h φ a w hg ho
  exact ⟨_, _, h1, φ, .refl φ, fun _ _ => ⟨rfl, rfl⟩, hr, h2⟩
/-- .. or at memory, which it leaves -/
def OpR (P : Program) (o : Oper) (tm : TM) (g : GM) (v : AV) : Prop :=
  ∀ (B : Base) (φ : Ph) (a : Act) (w : World), HR B φ g w → Glob φ → On φ tm o.op.operands.toList a → ∃ y, (execOp a.eval o).run P w = .ok (.value y) w ∧ AR φ v y
theorem OpR.s {P : Program} {o : Oper} {tm : TM} {g : GM} {v : AV} (h : OpR P o tm g v) : OpS P o tm g v g No := by
  intro B φ a w hr hg ho _
  obtain ⟨y, h1, h2⟩ := h B φ a w hr hg ho
  exact ⟨_, _, h1, φ, .refl φ, fun _ _ => ⟨rfl, rfl⟩, hr, h2⟩
theorem OpP.r {P : Program} {o : Oper} {tm : TM} {v : AV} (h : OpP P o tm v) (g : GM) : OpR P o tm g v := fun B φ a w _ hg ho => h φ a w hg ho
theorem run_v {P : Program} {s : Sem Value} {w : World} {v : Value} {w' : World} (h : s.run P w = .ok v w') : (do pure (.value (← s)) : Sem Next).run P w = .ok (.value v) w' := by
  rw [Sem.run_bind, h]; rfl
theorem run_u {P : Program} {s : Sem Unit} {w w' : World} (h : s.run P w = .ok () w') : (do s; pure .skip : Sem Next).run P w = .ok .skip w' := by
  rw [Sem.run_bind, h]; rfl
/-- what a call shows -/
def AskS (P : Program) (a : Ask) (g : GM) (v : AV) (g' : GM) (N : Nat → Prop) : Prop :=
  ∀ B φ w (vs : List Value), HR B φ g w → Glob φ → Fresh φ N → (match a with
  | .enter f args => A2 (AR φ) args vs → (∀ w', (callFunc f vs.toArray).run P w' = .ok (.enter f vs.toArray) w') ∧ ∃ v' w2 fr, Aft B φ g' N v v' w2 ∧ fr.fn = f ∧ fr.leaving P w2 (.returned v') ∧ ∀ cs, Steps P (lone (Frame.enter P f vs.toArray .normal) cs w) (lone fr cs w2)
  | .round l args => A2 (AR φ) args vs → ∀ b x, φ.blk l = some (b, x) → ∃ fn ts as bd, (Instr.yield b vs.toArray).run P w = .ok (.round b fn ts as bd) w ∧ ∃ v' w2, Aft B φ g' N v v' w2 ∧ ∀ c cs, Steps P (lone (Frame.round b fn ts as bd .normal) (c :: cs) w) (lone (c.finish v') cs w2))
/-- what a known call shows -/
def SmR.v : SmR → Nat → AV
  | .val x, _ => .c x
  | .row _ len cap sz, n => .c (.sl n 0 len cap sz false)
def SmR.g : SmR → GM → Nat → GM
  | .val _, g, _ => g
  | .row l _ _ _, g, n => GM.set g n (some (.cells l none))
def SmR.n : SmR → Nat → Nat → Prop
  | .val _, _ => No
  | .row _ _ _ _, n => (· = n)
def SmOK (P : Program) (f : FuncId) (s : Sm) : Prop := ∀ g n, (∀ p, p ∈ s.foot → (∃ sb, g p.1 = some (.cells p.2 sb)) ∨ g p.1 = some (.ro p.2)) → AskS P (.enter f s.args) g (s.res.v n) (s.res.g g n) (s.res.n n)
structure EOk (P : Program) (E : Env) : Prop where
  ty : ∀ t ti, T.get E.ty t = some ti → TIok P t ti
  fs : ∀ f fn, T.get E.fs f = some fn → P.funcs[f]? = some fn ∧ (fn.name == "runtime.NumGoroutine") = false
  mixed : P.follows .mixedOrders = true
  sm : ∀ f l s, T.get E.sm f = some l → s ∈ l → SmOK P f s
end Go.Ev
