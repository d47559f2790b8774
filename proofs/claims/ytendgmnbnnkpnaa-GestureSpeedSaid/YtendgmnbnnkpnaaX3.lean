/- Calm regions: the region's rule, and the walk's steps. -/
import Derived.Test.YtendgmnbnnkpnaaX2
import Derived.WalkKit
import Derived.WalkSpells
import Derived.WalkLawsBesides
import Derived.Deep.QuietTactic
import Derived.BigQuiet
import Derived.BigRegion
import Derived.Lib.Hide
import Derived.Deep.RegionWith
set_option linter.unusedSimpArgs false
set_option linter.unusedVariables false
namespace Go
section
variable {P : Program} {ops : Array Oper} {C : World → Prop} {n0 : Nat} {Mv : World → World → Prop} {I D : World → Prop} {w0 : World} {Q : Exit → Act → World → Prop}
def pairB (r : Nat → Nat → Bool) : List Nat → Bool
  | [] => true
  | x :: l => l.all (r x) && pairB r l
theorem pairB_spec {r : Nat → Nat → Bool} : ∀ {l : List Nat}, pairB r l = true → l.Pairwise fun x y => r x y = true
  | [], _ => List.Pairwise.nil
  | x :: l, h => by
    simp only [pairB, Bool.and_eq_true, List.all_eq_true] at h
    exact List.pairwise_cons.2 ⟨h.1, pairB_spec h.2⟩
def edgB (ops : Array Oper) : Bool := Region.noSelect ops && (List.range ops.size).all fun i => ((ops[i]?).map fun o => o.after.all fun e => !Region.binds .any e || decide (e.on < ops.size)).getD true
def calmOk (ops : Array Oper) (lw lq lm lp τ : List Nat) : Bool :=
  edgB ops && (List.range ops.size).all (fun i => (lq ++ lm ++ lw ++ lp ++ τ).contains i) && (lq ++ lm ++ lw ++ lp ++ τ).all (fun i => decide (i < ops.size) && !dep ops i i) &&
  pairB (fun i j => i != j && !dep ops i j) (lq ++ lm ++ lw ++ lp ++ τ) && pairB (fun j i => dep ops i j || apartB ops j i) (lq ++ lm ++ lw ++ lp) && pairB (apartB ops) lm &&
  (lm ++ lp).all (fun i => lw.all fun j => apartB ops i j) && (lq ++ lm ++ lp).all (fun i => τ.all fun t => dep ops t i || apartB ops i t) && chain ops τ && (τ.head?.map fun t => cov ops t (lq ++ lm ++ lw)).getD true
theorem wp_region_calm_gen {id : Nat} {a : Act} {w : World} {l : List Oper} (lw lq lm lp τ : List Nat) (hm : P.follows .mixedOrders = true) (hB : calmOk l.toArray lw lq lm lp τ = true)
    (hCI : ∀ w, I w → C w) (hCD : ∀ w, D w → C w) (hIx : ∀ w w', I w → Ext w w' → I w') (hDx : ∀ w w', D w → Ext w w' → D w') (hl1 : lw.length ≤ 1) (hI0 : lw ≠ [] → I w.drew) (hD0 : lw = [] → D w.drew) (hn0 : n0 ≤ w.heap.size)
    (h : OA P l.toArray C n0 Mv I D (only Q) lw lq lm lp τ a (fun _ => True) (fun _ => False)) : (Code.region id l.toArray true).wp P Q a w := by
  simp only [calmOk, edgB, Bool.and_eq_true] at hB
  obtain ⟨⟨⟨⟨⟨⟨⟨⟨⟨⟨b0, b0'⟩, b1⟩, b2⟩, b3⟩, b4⟩, b5⟩, b9⟩, b6⟩, b7⟩, b8⟩ := hB
  have hE : Edg l.toArray := ⟨fun j o cs b hj => Region.noSelect_spec b0 j o cs b hj, fun i o hi e he hb => by
    have hlt : i < l.toArray.size := (Array.getElem?_eq_some_iff.1 hi).1
    have := List.all_eq_true.1 b0' i (List.mem_range.2 hlt)
    simp only [hi, Option.map_some, Option.getD_some, Array.all_eq_true_iff_forall_mem, Bool.or_eq_true, Bool.not_eq_true', decide_eq_true_eq] at this
    rcases this e he with h | h
    · rw [hb] at h; cases h
    · exact h⟩
  have hall := fun i hi => List.all_eq_true.1 b2 i hi
  have hlt : ∀ i, i ∈ lq ++ lm ++ lw ++ lp ++ τ → i < l.toArray.size := fun i hi => by
    have := hall i hi; simp only [Bool.and_eq_true, decide_eq_true_eq] at this; exact this.1
  have hirr : ∀ i, i ∈ lq ++ lm ++ lw ++ lp ++ τ → dep l.toArray i i = false := fun i hi => by
    have := hall i hi; simp only [Bool.and_eq_true, Bool.not_eq_true'] at this; exact this.2
  have hnd : (lq ++ lm ++ lw ++ lp ++ τ).Nodup := (pairB_spec b3).imp fun h => by simp only [Bool.and_eq_true, bne_iff_ne] at h; exact h.1
  have hfw := (pairB_spec b3).imp fun {i j} (h : (i != j && !dep l.toArray i j) = true) => (by simp only [Bool.and_eq_true, Bool.not_eq_true'] at h; exact h.2 : dep l.toArray i j = false)
  have hO : Ordr l.toArray lq lm lw lp τ := ⟨hnd, hfw, hirr, hlt, (pairB_spec b4).imp fun h => by simpa using h, pairB_spec b5, fun i hi j hj => List.all_eq_true.1 (List.all_eq_true.1 b9 i hi) j hj, fun i hi t ht => by
    have := List.all_eq_true.1 (List.all_eq_true.1 b6 i hi) t ht
    simpa using this⟩
  have hmem : ∀ i, i < l.toArray.size → i ∈ lq ++ lm ++ lw ++ lp ++ τ := fun i hi => by
    have := List.all_eq_true.1 b1 i (List.mem_range.2 hi)
    simpa using this
  have hI : Inv l.toArray (Array.replicate l.toArray.size false) (lq ++ lm ++ lw ++ lp ++ τ) := by
    refine ⟨by simp, fun i o hi hl => ?_, fun i hi => ?_⟩
    · have hlt : i < l.toArray.size := (Array.getElem?_eq_some_iff.1 hi).1
      simp only [List.size_toArray] at hlt
      simp [hlt] at hl
    · have := hmem i hi
      simp only [List.size_toArray] at hi
      constructor
      · intro _; exact this
      · intro _; simp [hi]
  have hlen : l.toArray.size = (lq ++ lm ++ lw ++ lp ++ τ).length := by
    have h1 : (List.range l.toArray.size).Perm (lq ++ lm ++ lw ++ lp ++ τ) := by
      rw [List.perm_ext_iff_of_nodup List.nodup_range hnd]
      intro i
      exact ⟨fun h => hmem i (List.mem_range.1 h), fun h => List.mem_range.2 (hlt i h)⟩
    have := h1.length_eq
    simpa using this
  refine wp_region_any hm (wpAny_only _ _ _ _ ?_)
  exact calmA hE hCI hCD hIx hDx (lq ++ lm ++ lw) (fun j hj => hlt j (by simp at hj ⊢; rcases hj with hj | hj | hj <;> simp [hj])) τ (fun t ht => by rw [ht] at b8; simpa using b8) l.toArray.size _ a _ (fun _ => True) (fun _ => False) lw lq lm lp hI hO b7 (fun j hj => hj) hlen
    hl1 hI0 hD0 hn0 trivial (fun _ _ _ _ => trivial) (fun _ _ _ _ => trivial) (fun _ h => h.elim) h

/-! the steps -/
/-- the quiet ones, the operations themselves -/
def QL (P : Program) (ops : Array Oper) (C : World → Prop) (R : Act → Prop) : List Oper → Act → Prop
  | [], a => R a
  | o :: l, a => ∃ v, Gv P ops C o a v ∧ QL P ops C R l (a.put o.dst v)
theorem ql_qw {R : Act → Prop} : ∀ {l : List Nat} {a : Act}, (∀ i, i ∈ l → i < ops.size) → QL P ops C R (l.filterMap (ops[·]?)) a → QW P ops C R l a
  | [], _, _, h => h
  | i :: l, a, hlt, h => by
    have hi : ops[i]? = some (ops[i]'(hlt i (List.mem_cons_self ..))) := by simp [hlt i (List.mem_cons_self ..)]
    rw [List.filterMap_cons, hi] at h
    obtain ⟨v, hg, hh⟩ := h
    exact ⟨_, hi, v, hg, ql_qw (fun k hk => hlt k (List.mem_cons_of_mem _ hk)) hh⟩
theorem ql_nil {R : Act → Prop} {a : Act} (h : R a) : QL P ops C R [] a := h
theorem ql_skip {R : Act → Prop} {a : Act} {l : List Oper} {o : Oper} (hw : Region.wanted o (yielded ops a.tmps) = false) (h : ∀ K : Act → Prop, (∀ a, QL P ops C R l a → K a) → K (a.put o.dst undef)) : QL P ops C R (o :: l) a :=
  ⟨undef, .inl ⟨hw, rfl⟩, h _ fun _ h => h⟩
theorem ql_gives {R : Act → Prop} {a : Act} {l : List Oper} {o : Oper} {v : Value} (hw : Region.wanted o (yielded ops a.tmps) = true) (hg : o.gives P a C v) (h : QL P ops C R l (a.put o.dst v)) : QL P ops C R (o :: l) a :=
  ⟨v, .inr ⟨hw, hg⟩, h⟩
def Op.builtinly : Op → Bool
  | .call { callee := .builtin .len, .. } | .call { callee := .builtin .cap, .. } | .call { callee := .builtin .max, .. } | .call { callee := .builtin .min, .. } => true
  | _ => false
theorem builtinly_value {ρ : Operand → Value} {o : Oper} {w w' : World} {n : Next} (hp : o.op.builtinly = true) (h : (execOp ρ o).run P w = .ok n w') : ∃ u, n = .value u := by
  unfold execOp at h
  cases hop : o.op <;> simp only [hop, Op.builtinly] at hp h
  case call c =>
    obtain ⟨callee, args, ats⟩ := c
    cases callee with
    | value f => cases hp
    | invoke r m => cases hp
    | builtin b =>
      cases b <;> first
        | (cases hp; done)
        | (simp only [resolve, invoke, builtin_len, builtin_cap, builtin_max, builtin_min, bind, pure, Sem.bind] at h; exact run_value_only id _ h)
        | (unfold resolve invoke at h; simp only [bind, pure, Sem.bind] at h; unfold builtin at h; exact run_value_only id _ h)
  all_goals cases hp
/-- an operation without a call: the kit's quiet operation, in the class of w0's extensions -/
theorem ql_plain {R : Act → Prop} {a : Act} {l : List Oper} {o : Oper} (hp : (o.op.plainly || o.op.builtinly) = true) (hw : Region.wanted o (yielded ops a.tmps) = true)
    (h : ∀ K : Act → Prop, (∀ a, QL P ops C R l a → K a) → o.quiet P a C K) : QL P ops C R (o :: l) a := by
  obtain ⟨v, h1, h2⟩ := h _ fun _ h => h
  refine ql_gives hw (fun w hw' => ?_) h2
  have h3 := h1 w hw'
  unfold Oper.quietAt at h3
  cases hr : (execOp a.eval o).run P w with
  | ok n w' =>
    rw [hr] at h3
    have hv : ∃ u, n = .value u := by
      rcases Bool.or_eq_true _ _ |>.mp hp with hp | hp
      · exact plainly_value hp hr
      · exact builtinly_value hp hr
    obtain ⟨u, rfl⟩ := hv
    exact h3
  | halt x w' => rw [hr] at h3; exact h3.elim
theorem ql_nilCheck {R : Act → Prop} {a : Act} {l : List Oper} {o : Oper} {x : Operand} {p : Addr} (hop : o.op = .nilCheck x) (hx : a.eval x = .pointer (some p)) (hw : Region.wanted o (yielded ops a.tmps) = true)
    (h : ∀ K : Act → Prop, (∀ a, QL P ops C R l a → K a) → K (a.put o.dst (.pointer (some p)))) : QL P ops C R (o :: l) a :=
  ql_gives hw (fun w _ => by
    have : (execOp a.eval o).run P w = .ok (.value (.pointer (some p))) w := by simp [execOp, hop, hx, pure]
    rw [this]; exact ⟨rfl, rfl⟩) (h _ fun _ h => h)
theorem run_call_func {P : Program} {a : Act} {o : Oper} {f : FuncId} {fn : Func} {xs : List Operand} {args : List Value} {ats : Array TypeId} {w : World} (hop : o.op = .call { callee := .value (.func f), args := xs.toArray, argTypes := ats })
    (hargs : xs.map a.eval = args) (hf : P.funcs[f]? = some fn) (hb : fn.body.isNone = false) (hn : (fn.name == "runtime.NumGoroutine") = false) :
    (execOp a.eval o).run P w = .ok (.enter f args.toArray) w := by
  have hn' : ¬ fn.name = "runtime.NumGoroutine" := by simpa using hn
  have hb' : ¬ fn.body = Option.none := fun h => by rw [h] at hb; cases hb
  subst hargs
  simp [execOp, hop, resolve, Act.eval, bind, pure, Sem.bind, Deferred.ofValue, invoke, callFunc, program, Sem.run, hf, hb', hn']
/-- the class of a world's extensions -/
abbrev Exts (w0 : World) : World → Prop := fun w' => ∃ d, w' = w0.ext d
/-- .. of a family of worlds -/
abbrev Extz (Wf : Array Value → World) : World → Prop := fun w' => ∃ z d, w' = (Wf z).ext d
theorem ql_call {R : Act → Prop} {a : Act} {l : List Oper} {o : Oper} {f : FuncId} {fn : Func} {xs : List Operand} {args : List Value} {ats : Array TypeId} {v : Value}
    (hc : ∀ d, Calls P f args.toArray (w0.ext d) fun e w' => e = .returned v ∧ Ext (w0.ext d) w') (hop : o.op = .call { callee := .value (.func f), args := xs.toArray, argTypes := ats }) (hargs : xs.map a.eval = args)
    (hf : P.funcs[f]? = some fn) (hb : fn.body.isNone = false) (hn : (fn.name == "runtime.NumGoroutine") = false) (hw : Region.wanted o (yielded ops a.tmps) = true)
    (h : ∀ K : Act → Prop, (∀ a, QL P ops (fun w' => ∃ d, w' = w0.ext d) R l a → K a) → K (a.put o.dst v)) : QL P ops (fun w' => ∃ d, w' = w0.ext d) R (o :: l) a :=
  ql_gives hw (fun w ⟨d, hd⟩ => by subst hd; rw [run_call_func hop hargs hf hb hn]; exact ⟨rfl, hc d⟩) (h _ fun _ h => h)
theorem ql_callz {Wf : Array Value → World} {R : Act → Prop} {a : Act} {l : List Oper} {o : Oper} {f : FuncId} {fn : Func} {xs : List Operand} {args : List Value} {ats : Array TypeId} {v : Value}
    (hc : ∀ z d, Calls P f args.toArray ((Wf z).ext d) fun e w' => e = .returned v ∧ Ext ((Wf z).ext d) w') (hop : o.op = .call { callee := .value (.func f), args := xs.toArray, argTypes := ats }) (hargs : xs.map a.eval = args)
    (hf : P.funcs[f]? = some fn) (hb : fn.body.isNone = false) (hn : (fn.name == "runtime.NumGoroutine") = false) (hw : Region.wanted o (yielded ops a.tmps) = true)
    (h : ∀ K : Act → Prop, (∀ a, QL P ops (fun w' => ∃ z d, w' = (Wf z).ext d) R l a → K a) → K (a.put o.dst v)) : QL P ops (fun w' => ∃ z d, w' = (Wf z).ext d) R (o :: l) a :=
  ql_gives hw (fun w ⟨z, d, hd⟩ => by subst hd; rw [run_call_func hop hargs hf hb hn]; exact ⟨rfl, hc z d⟩) (h _ fun _ h => h)
/-! the makers -/
/-- a new block, and a pointer to its head -/
def NewPtr (O : Obj) (u : Value) : Facts := fun w => ∃ b, u = .pointer (some ⟨b, 0, .none⟩) ∧ w.heap[b]? = some O
/-- a new block, and a slice over all of it -/
def NewSl (O : Obj) (n : Nat) (u : Value) : Facts := fun w => ∃ b, u = .slice (some ⟨b, 0, .none⟩) n n ∧ w.heap[b]? = some O
theorem heap_some_ext {w w' : World} {b : Nat} {O : Obj} (h : w.heap[b]? = some O) (he : Ext w w') : w'.heap[b]? = some O := by
  obtain ⟨d, rfl⟩ := he
  rw [World.heap_ext w d b (Array.getElem?_eq_some_iff.1 h).1]; exact h
theorem stable_ptr (O : Obj) : Stable (NewPtr O) := fun _ _ _ ⟨b, h1, h2⟩ he => ⟨b, h1, heap_some_ext h2 he⟩
theorem stable_sl (O : Obj) (n : Nat) : Stable (NewSl O n) := fun _ _ _ ⟨b, h1, h2⟩ he => ⟨b, h1, heap_some_ext h2 he⟩
theorem stableM_none {Φ : Value → Facts} : StableM n0 (fun _ _ => False) Φ := fun _ _ _ _ _ h => h.elim
/-- the writer's move: the family's parameter turns, nothing else -/
def Mvz (Wf : Array Value → World) (w w' : World) : Prop := ∃ z z' d, w = (Wf z).ext d ∧ w' = (Wf z').ext d
theorem heap_mvz {Wf : Array Value → World} (hsz : ∀ z, (Wf z).heap.size = n0) {w w' : World} (h : Mvz Wf w w') {b : Nat} (hb : n0 ≤ b) : w'.heap[b]? = w.heap[b]? := by
  obtain ⟨z, z', d, rfl, rfl⟩ := h
  show ((Wf z').heap ++ d.objs)[b]? = ((Wf z).heap ++ d.objs)[b]?
  rw [Array.getElem?_append, Array.getElem?_append, hsz, hsz, if_neg (by omega), if_neg (by omega)]
theorem stableM_ptr {Wf : Array Value → World} (hsz : ∀ z, (Wf z).heap.size = n0) (O : Obj) : StableM n0 (Mvz Wf) (NewPtr O) := fun _ _ _ ⟨b, h1, h2⟩ hf hm => ⟨b, h1, by rw [heap_mvz hsz hm (hf b (by rw [h1]; rfl))]; exact h2⟩
theorem stableM_sl {Wf : Array Value → World} (hsz : ∀ z, (Wf z).heap.size = n0) (O : Obj) (n : Nat) : StableM n0 (Mvz Wf) (NewSl O n) := fun _ _ _ ⟨b, h1, h2⟩ hf hm => ⟨b, h1, by rw [heap_mvz hsz hm (hf b (by rw [h1]; rfl))]; exact h2⟩
theorem makes_ptr {o : Oper} {a : Act} {w : World} (O : Obj) (hrun : (execOp a.eval o).run P w = .ok (.value (.pointer (some ⟨w.heap.size, 0, .none⟩))) (w.alloc O)) : Oper.makesUpon P w (NewPtr O) ((execOp a.eval o).run P w) := by
  rw [hrun]
  refine ⟨Ext.alloc (Ext.refl _) O, ⟨_, rfl, heap_alloc_new _ _⟩, fun b hb => ?_⟩
  simp only [Value.blk, Option.some.injEq] at hb
  subst hb
  rw [World.size_alloc]; omega
theorem makes_sl {o : Oper} {a : Act} {w : World} (O : Obj) (n : Nat) (hrun : (execOp a.eval o).run P w = .ok (.value (.slice (some ⟨w.heap.size, 0, .none⟩) n n)) (w.alloc O)) : Oper.makesUpon P w (NewSl O n) ((execOp a.eval o).run P w) := by
  rw [hrun]
  refine ⟨Ext.alloc (Ext.refl _) O, ⟨_, rfl, heap_alloc_new _ _⟩, fun b hb => ?_⟩
  simp only [Value.blk, Option.some.injEq] at hb
  subst hb
  rw [World.size_alloc]; omega
abbrev NoMv : World → World → Prop := fun _ _ => False
theorem mk_ptr {a : Act} {i : Nat} {o : Oper} (O : Obj) (ho : ops[i]? = some o) (hw : Region.wanted o (yielded ops a.tmps) = true)
    (hrun : ∀ d, (execOp a.eval o).run P (w0.ext d) = .ok (.value (.pointer (some ⟨(w0.ext d).heap.size, 0, .none⟩))) ((w0.ext d).alloc O)) : Mk P ops (fun w' => ∃ d, w' = w0.ext d) n0 NoMv a (i, NewPtr O) :=
  ⟨o, ho, hw, stable_ptr O, stableM_none, fun w ⟨d, hd⟩ => by subst hd; exact makes_ptr O (hrun d)⟩
theorem mk_sl {a : Act} {i : Nat} {o : Oper} (O : Obj) (n : Nat) (ho : ops[i]? = some o) (hw : Region.wanted o (yielded ops a.tmps) = true)
    (hrun : ∀ d, (execOp a.eval o).run P (w0.ext d) = .ok (.value (.slice (some ⟨(w0.ext d).heap.size, 0, .none⟩) n n)) ((w0.ext d).alloc O)) : Mk P ops (fun w' => ∃ d, w' = w0.ext d) n0 NoMv a (i, NewSl O n) :=
  ⟨o, ho, hw, stable_sl O n, stableM_none, fun w ⟨d, hd⟩ => by subst hd; exact makes_sl O n (hrun d)⟩
theorem mkz_sl {Wf : Array Value → World} {a : Act} {i : Nat} {o : Oper} (O : Obj) (n : Nat) (hsz : ∀ z, (Wf z).heap.size = n0) (ho : ops[i]? = some o) (hw : Region.wanted o (yielded ops a.tmps) = true)
    (hrun : ∀ z d, (execOp a.eval o).run P ((Wf z).ext d) = .ok (.value (.slice (some ⟨((Wf z).ext d).heap.size, 0, .none⟩) n n)) (((Wf z).ext d).alloc O)) : Mk P ops (fun w' => ∃ z d, w' = (Wf z).ext d) n0 (Mvz Wf) a (i, NewSl O n) :=
  ⟨o, ho, hw, stable_sl O n, stableM_sl hsz O n, fun w ⟨z, d, hd⟩ => by subst hd; exact makes_sl O n (hrun z d)⟩
/-- a call that hands back something new -/
theorem mk_call {a : Act} {i : Nat} {o : Oper} {f : FuncId} {fn : Func} {xs : List Operand} {args : List Value} {ats : Array TypeId} {Φ : Value → Facts} (hst : Stable Φ)
    (hc : ∀ d, Calls P f args.toArray (w0.ext d) fun e w' => ∃ u, e = .returned u ∧ Ext (w0.ext d) w' ∧ Φ u w' ∧ ∀ b, u.blk = some b → (w0.ext d).heap.size ≤ b ∧ b < w'.heap.size)
    (ho : ops[i]? = some o) (hop : o.op = .call { callee := .value (.func f), args := xs.toArray, argTypes := ats }) (hargs : xs.map a.eval = args)
    (hf : P.funcs[f]? = some fn) (hb : fn.body.isNone = false) (hn : (fn.name == "runtime.NumGoroutine") = false) (hw : Region.wanted o (yielded ops a.tmps) = true) : Mk P ops (fun w' => ∃ d, w' = w0.ext d) n0 NoMv a (i, Φ) :=
  ⟨o, ho, hw, hst, stableM_none, fun w ⟨d, hd⟩ => by subst hd; rw [run_call_func hop hargs hf hb hn]; exact ⟨rfl, hc d⟩⟩
theorem mw0 {T : Act → Facts → Prop} {F : Facts} {B : Blks} {a : Act} (h : T a F) : MW P ops C n0 Mv T [] F B a := ⟨[], rfl, (fun _ h => by cases h), h⟩
theorem mw1 {T : Act → Facts → Prop} {F : Facts} {B : Blks} {a : Act} {i : Nat} {Φ : Value → Facts} (hk : Mk P ops C n0 Mv a (i, Φ))
    (h : ∀ u, (∀ b, u.blk = some b → n0 ≤ b) → ∀ K : Act → Prop, (∀ a, T a (fun w => F w ∧ Φ u w) → K a) → K (a.put ((ops[i]?).bind (·.dst)) u)) : MW P ops C n0 Mv T [i] F B a :=
  ⟨[(i, Φ)], rfl, fun p hp => by obtain rfl : p = (i, Φ) := by simpa using hp
                                 exact hk, fun u hu => h u (fun b hb => (hu b hb).1) _ fun _ h => h⟩
theorem mw2 {T : Act → Facts → Prop} {F : Facts} {B : Blks} {a : Act} {i j : Nat} {Φ Ψ : Value → Facts} (hk : Mk P ops C n0 Mv a (i, Φ)) (hk' : Mk P ops C n0 Mv a (j, Ψ))
    (h : ∀ u v, (∀ b, u.blk = some b → n0 ≤ b) → (∀ b, v.blk = some b → n0 ≤ b) → (∀ b, v.blk = some b → ¬ u.blk = some b) → ∀ K : Act → Prop, (∀ a, T a (fun w => (F w ∧ Φ u w) ∧ Ψ v w) → K a) →
      K ((a.put ((ops[i]?).bind (·.dst)) u).put ((ops[j]?).bind (·.dst)) v)) : MW P ops C n0 Mv T [i, j] F B a :=
  ⟨[(i, Φ), (j, Ψ)], rfl, fun p hp => by
    simp only [List.mem_cons, List.not_mem_nil, or_false] at hp
    rcases hp with rfl | rfl
    · exact hk
    · exact hk', fun u hu v hv => h u v (fun b hb => (hu b hb).1) (fun b hb => (hv b hb).1) (fun b hb h2 => (hv b hb).2 (.inr h2)) _ fun _ h => h⟩
/-- the writer: a store into the family's parameter -/
theorem wo1 {Wf : Array Value → World} {z0 z1 : Array Value} {j : Nat} {o : Oper} {a : Act} (hsz : ∀ z, (Wf z).heap.size = n0) (ho : ops[j]? = some o) (hd : o.dst = none) (hw : Region.wanted o (yielded ops a.tmps) = true)
    (hrun : ∀ d, (execOp a.eval o).run P ((Wf z0).ext d) = .ok .skip ((Wf z1).ext d)) : WO P ops (fun w => ∃ d, w = (Wf z0).ext d) (fun w => ∃ d, w = (Wf z1).ext d) (Mvz Wf) [j] a := fun k hk => by
  obtain rfl : k = j := by simpa using hk
  exact ⟨o, ho, hd, hw, fun w ⟨d, hd⟩ => ⟨_, by rw [hd]; exact hrun d, ⟨d, rfl⟩, ⟨z0, z1, d, hd, rfl⟩, by rw [hd]; simp [hsz]⟩⟩
/-! the tail -/
theorem wpOps_list : ∀ {τ : List Nat} {lt : List Oper} {a : Act} {w : World}, τ.map (ops[·]?) = lt.map some → wpList P ops Q lt a w → wpOps P ops Q τ a w
  | [], [], _, _, _, h => h
  | [], _ :: _, _, _, h, _ => by cases h
  | _ :: _, [], _, _, h, _ => by cases h
  | i :: τ, o :: lt, a, w, hm, h => by
    simp only [List.map_cons, List.cons.injEq] at hm
    have ih : ∀ a w, wpList P ops Q lt a w → wpOps P ops Q τ a w := fun a w h => wpOps_list hm.2 h
    rw [wpOps_cons]
    unfold wpOp
    simp only [hm.1]
    unfold wpList at h
    by_cases hw : Region.wanted o (yielded ops a.tmps) = true
    · rw [if_pos hw] at h ⊢
      exact h.imp (Oper.wp_mono ih) id
    · rw [if_neg hw] at h ⊢
      exact ih _ _ h
/-- the late pure ones, the operations themselves -/
def PL (P : Program) (ops : Array Oper) (R : Act → Prop) : List Oper → Act → Prop
  | [], a => R a
  | o :: l, a => ∃ v, Yields P ops o v a ∧ PL P ops R l (a.put o.dst v)
theorem pl_pw {R : Act → Prop} : ∀ {l : List Nat} {a : Act}, (∀ i, i ∈ l → i < ops.size) → PL P ops R (l.filterMap (ops[·]?)) a → PW P ops R l a
  | [], _, _, h => h
  | i :: l, a, hlt, h => by
    have hi : ops[i]? = some (ops[i]'(hlt i (List.mem_cons_self ..))) := by simp [hlt i (List.mem_cons_self ..)]
    rw [List.filterMap_cons, hi] at h
    obtain ⟨v, hg, hh⟩ := h
    exact ⟨_, hi, v, hg, pl_pw (fun k hk => hlt k (List.mem_cons_of_mem _ hk)) hh⟩
theorem PL.mono {R R' : Act → Prop} (h : ∀ a, R a → R' a) : ∀ {l : List Oper} {a : Act}, PL P ops R l a → PL P ops R' l a
  | [], _, hh => h _ hh
  | _ :: _, _, ⟨v, hg, hh⟩ => ⟨v, hg, PL.mono h hh⟩
theorem pl_nil {R : Act → Prop} {a : Act} (h : R a) : PL P ops R [] a := h
theorem pl_plain {R : Act → Prop} {a : Act} {l : List Oper} {o : Oper} (hp : (o.op.plainly || o.op.builtinly) = true) (hw : Region.wanted o (yielded ops a.tmps) = true)
    (h : ∀ K : Act → Prop, (∀ a, PL P ops R l a → K a) → o.quiet P a (fun _ => True) K) : PL P ops R (o :: l) a := by
  obtain ⟨v, h1, h2⟩ := h _ fun _ h => h
  refine ⟨v, .inl ⟨hw, fun w => ?_⟩, h2⟩
  have h3 := h1 w trivial
  unfold Oper.quietAt at h3
  cases hr : (execOp a.eval o).run P w with
  | ok n w' =>
    rw [hr] at h3
    have hv : ∃ u, n = .value u := by
      rcases Bool.or_eq_true _ _ |>.mp hp with hp | hp
      · exact plainly_value hp hr
      · exact builtinly_value hp hr
    obtain ⟨u, rfl⟩ := hv
    obtain ⟨rfl, rfl⟩ := h3
    rfl
  | halt x w' => rw [hr] at h3; exact h3.elim
theorem pl_nilCheck {R : Act → Prop} {a : Act} {l : List Oper} {o : Oper} {x : Operand} {p : Addr} (hop : o.op = .nilCheck x) (hx : a.eval x = .pointer (some p)) (hw : Region.wanted o (yielded ops a.tmps) = true)
    (h : ∀ K : Act → Prop, (∀ a, PL P ops R l a → K a) → K (a.put o.dst (.pointer (some p)))) : PL P ops R (o :: l) a :=
  ⟨.pointer (some p), .inl ⟨hw, fun w => by simp [execOp, hop, hx, pure]⟩, h _ fun _ h => h⟩
theorem only_normal {a : Act} {w : World} (h : Q .normal a w) : only Q .normal a w := h
/-- where a new block lies: it parts what came behind the old world -/
theorem Ext.split {w0 w : World} {b : Nat} {O : Obj} (h : Ext w0 w) (hb : w.heap[b]? = some O) (h0 : w0.heap.size ≤ b) : ∃ d e, b = w0.heap.size + d.size ∧ w = ((w0.ext d).alloc O).ext e := by
  obtain ⟨g, rfl⟩ := h
  have hlt : b < (w0.ext g).heap.size := (Array.getElem?_eq_some_iff.1 hb).1
  have hO : g.objs[b - w0.heap.size]? = some O := by
    have h1 : (w0.ext g).heap[b]? = (w0.heap ++ g.objs)[b]? := rfl
    rw [h1, Array.getElem?_append, if_neg (by omega)] at hb
    exact hb
  have hk : b - w0.heap.size < g.objs.size := (Array.getElem?_eq_some_iff.1 hO).1
  refine ⟨⟨g.objs.extract 0 (b - w0.heap.size), g.n⟩, ⟨g.objs.extract (b - w0.heap.size + 1) g.objs.size, g.n⟩, ?_, ?_⟩
  · simp only [Grow.size, Array.size_extract]; omega
  · have hobjs : g.objs = (g.objs.extract 0 (b - w0.heap.size)).push O ++ g.objs.extract (b - w0.heap.size + 1) g.objs.size := by
      apply Array.ext_getElem?
      intro k
      rw [Array.getElem?_append, Array.getElem?_push, Array.size_push, Array.size_extract]
      rcases Nat.lt_trichotomy k (b - w0.heap.size) with hlt | heq | hgt
      · rw [if_pos (by omega), if_neg (by omega), Array.getElem?_extract_of_lt (by omega)]; simp
      · subst heq
        rw [if_pos (by omega), if_pos (by omega)]; exact hO
      · rw [if_neg (by omega), Array.getElem?_extract]
        by_cases h2 : k < g.objs.size
        · rw [if_pos (by omega)]; congr 1; omega
        · rw [if_neg (by omega)]; exact Array.getElem?_eq_none (by omega)
    have e1 : (((w0.ext ⟨g.objs.extract 0 (b - w0.heap.size), g.n⟩).alloc O).ext ⟨g.objs.extract (b - w0.heap.size + 1) g.objs.size, g.n⟩) =
      ({ w0 with heap := (w0.heap ++ g.objs.extract 0 (b - w0.heap.size)).push O ++ g.objs.extract (b - w0.heap.size + 1) g.objs.size, drawn := g.n } : World) := rfl
    rw [e1]
    show ({ w0 with heap := w0.heap ++ g.objs, drawn := g.n } : World) = _
    rw [← Array.append_push, Array.append_assoc, ← hobjs]
theorem Ext.split1 {w0 w : World} {u : Value} {O : Obj} (h : Ext w0 w) (hu : NewPtr O u w) (h0 : ∀ b, u.blk = some b → w0.heap.size ≤ b) : ∃ d e, u = .pointer (some ⟨w0.heap.size + d.size, 0, .none⟩) ∧ w = ((w0.ext d).alloc O).ext e := by
  obtain ⟨b, rfl, hb⟩ := hu
  obtain ⟨d, e, rfl, hw⟩ := h.split hb (h0 b rfl)
  exact ⟨d, e, rfl, hw⟩
theorem Ext.split1s {w0 w : World} {u : Value} {O : Obj} {n : Nat} (h : Ext w0 w) (hu : NewSl O n u w) (h0 : ∀ b, u.blk = some b → w0.heap.size ≤ b) : ∃ d e, u = .slice (some ⟨w0.heap.size + d.size, 0, .none⟩) n n ∧ w = ((w0.ext d).alloc O).ext e := by
  obtain ⟨b, rfl, hb⟩ := hu
  obtain ⟨d, e, rfl, hw⟩ := h.split hb (h0 b rfl)
  exact ⟨d, e, rfl, hw⟩
/-- two new blocks: which came first is open -/
theorem Ext.split2 {w0 w : World} {u v : Value} {O O' : Obj} (h : Ext w0 w) (hu : NewPtr O u w) (hv : NewPtr O' v w) (h0 : ∀ b, u.blk = some b → w0.heap.size ≤ b) (h1 : ∀ b, v.blk = some b → w0.heap.size ≤ b) (hne : ∀ b, v.blk = some b → ¬ u.blk = some b) :
    (∃ d e f, u = .pointer (some ⟨w0.heap.size + d.size, 0, .none⟩) ∧ v = .pointer (some ⟨w0.heap.size + d.size + 1 + e.size, 0, .none⟩) ∧ w = ((((w0.ext d).alloc O).ext e).alloc O').ext f) ∨
    (∃ d e f, v = .pointer (some ⟨w0.heap.size + d.size, 0, .none⟩) ∧ u = .pointer (some ⟨w0.heap.size + d.size + 1 + e.size, 0, .none⟩) ∧ w = ((((w0.ext d).alloc O').ext e).alloc O).ext f) := by
  obtain ⟨b, rfl, hb⟩ := hu
  obtain ⟨c, rfl, hc⟩ := hv
  have hbc : c ≠ b := fun e => hne c rfl (by rw [e]; rfl)
  obtain ⟨d, e, rfl, rfl⟩ := h.split hb (h0 b rfl)
  rcases Nat.lt_or_gt_of_ne hbc with hlt | hgt
  · have hc' : (w0.ext d).heap[c]? = some O' := by
      rw [World.heap_ext _ _ _ (by simp; omega)] at hc
      rw [← hc]; exact (heap_alloc_old _ _ (by simp; omega)).symm
    obtain ⟨d1, e1, rfl, hw⟩ := Ext.split (w := w0.ext d) ⟨d, rfl⟩ hc' (h1 c rfl)
    have hsz : w0.heap.size + d.size = w0.heap.size + d1.size + 1 + e1.size := by
      have := congrArg (fun w => w.heap.size) hw; simpa using this
    exact .inr ⟨d1, e1, e, rfl, by rw [hsz], by rw [hw]⟩
  · obtain ⟨d1, e1, hcc, hw⟩ := Ext.split (w0 := (w0.ext d).alloc O) ⟨e, rfl⟩ hc (by simp; omega)
    refine .inl ⟨d, d1, e1, rfl, ?_, hw⟩
    rw [hcc]; simp
/-- THE RULE, over the operations themselves: 'qo', 'po', 'lo' are computed from the places -/
theorem wp_region_calm_l {id : Nat} {a : Act} {w : World} {l : List Oper} (lw lq lm lp τ : List Nat) {qo po lo : List Oper} (hm : P.follows .mixedOrders = true) (hB : calmOk l.toArray lw lq lm lp τ = true)
    (hq : lq.filterMap (l.toArray[·]?) = qo) (hp : lp.filterMap (l.toArray[·]?) = po) (hl : τ.filterMap (l.toArray[·]?) = lo)
    (hCI : ∀ w, I w → C w) (hCD : ∀ w, D w → C w) (hIx : ∀ w w', I w → Ext w w' → I w') (hDx : ∀ w w', D w → Ext w w' → D w') (hl1 : lw.length ≤ 1) (hI0 : lw ≠ [] → I w.drew) (hD0 : lw = [] → D w.drew) (hn0 : n0 ≤ w.heap.size)
    (h : QL P l.toArray C (fun a' => WO P l.toArray I D Mv lw a' ∧ MW P l.toArray C n0 Mv (fun a F => PL P l.toArray (fun a3 => ∀ w', D w' → F w' → wpList P l.toArray (only Q) lo a3 w') po a) lm (fun _ => True) (fun _ => False) a') qo a) : (Code.region id l.toArray true).wp P Q a w := by
  have hlt : ∀ i, i ∈ lq ++ lm ++ lw ++ lp ++ τ → i < l.toArray.size := fun i hi => by
    simp only [calmOk, Bool.and_eq_true] at hB
    obtain ⟨⟨⟨⟨⟨⟨⟨⟨_, b2⟩, _⟩, _⟩, _⟩, _⟩, _⟩, _⟩, _⟩ := hB
    have := List.all_eq_true.1 b2 i hi; simp only [Bool.and_eq_true, decide_eq_true_eq] at this; exact this.1
  refine wp_region_calm_gen (Mv := Mv) lw lq lm lp τ hm hB hCI hCD hIx hDx hl1 hI0 hD0 hn0 ?_
  subst hq hp hl
  refine ql_qw (l := lq) (fun i hi => hlt i (by simp [hi])) ?_
  have hτ : τ.map (l.toArray[·]?) = (τ.filterMap (l.toArray[·]?)).map some := by
    have : ∀ τ : List Nat, (∀ i, i ∈ τ → i < l.toArray.size) → τ.map (l.toArray[·]?) = (τ.filterMap (l.toArray[·]?)).map some := by
      intro τ
      induction τ with
      | nil => intro _; rfl
      | cons i τ ih =>
        intro hlt
        have hi : l.toArray[i]? = some (l.toArray[i]'(hlt i (List.mem_cons_self ..))) := Array.getElem?_eq_getElem _
        rw [List.map_cons, List.filterMap_cons, hi, ih (fun k hk => hlt k (List.mem_cons_of_mem _ hk))]
        rfl
    exact this τ (fun i hi => hlt i (by simp [hi]))
  have key : ∀ (qo : List Oper) (a : Act) (R R' : Act → Prop), (∀ a, R a → R' a) → QL P l.toArray C R qo a → QL P l.toArray C R' qo a := by
    intro qo
    induction qo with
    | nil => intro a R R' hr h; exact hr _ h
    | cons o qo ih => intro a R R' hr ⟨v, hg, hh⟩; exact ⟨v, hg, ih _ R R' hr hh⟩
  refine key _ _ _ _ (fun a' ⟨h0, M, h1, h2, h3⟩ => ⟨h0, M, h1, h2, MU.mono (fun a F h => ?_) h3⟩) h
  exact PW.mono (fun a3 h3 w' hw hF => wpOps_list hτ (h3 w' hw hF)) (pl_pw (fun i hi => hlt i (by simp [hi])) h)
theorem wp_region_calm_ops {id : Nat} {a : Act} {w : World} {l : List Oper} (lq lm lp τ : List Nat) {qo po lo : List Oper} (hm : P.follows .mixedOrders = true) (hB : calmOk l.toArray [] lq lm lp τ = true)
    (hq : lq.filterMap (l.toArray[·]?) = qo) (hp : lp.filterMap (l.toArray[·]?) = po) (hl : τ.filterMap (l.toArray[·]?) = lo)
    (h : QL P l.toArray (fun w' => ∃ d, w' = w.ext d) (fun a' => MW P l.toArray (fun w' => ∃ d, w' = w.ext d) w.heap.size NoMv (fun a F => PL P l.toArray (fun a3 => ∀ w', Ext w w' → F w' → wpList P l.toArray (only Q) lo a3 w') po a) lm (fun _ => True) (fun _ => False) a') qo a) : (Code.region id l.toArray true).wp P Q a w := by
  refine wp_region_calm_l (I := fun _ => False) (D := fun w' => ∃ d, w' = w.ext d) (C := fun w' => ∃ d, w' = w.ext d) (n0 := w.heap.size) (Mv := NoMv) [] lq lm lp τ hm hB hq hp hl (fun _ h => h.elim) (fun _ h => h) (fun _ _ h => h.elim) (fun a b h h' => Ext.trans h h') (by simp) (fun h => absurd rfl h) (fun _ => ⟨w.grow1, World.drew_is_ext w⟩) (Nat.le_refl _) ?_
  have key : ∀ (qo : List Oper) (a : Act) (R R' : Act → Prop), (∀ a, R a → R' a) → QL P l.toArray (fun w' => ∃ d, w' = w.ext d) R qo a → QL P l.toArray (fun w' => ∃ d, w' = w.ext d) R' qo a := by
    intro qo
    induction qo with
    | nil => intro a R R' hr h; exact hr _ h
    | cons o qo ih => intro a R R' hr ⟨v, hg, hh⟩; exact ⟨v, hg, ih _ R R' hr hh⟩
  exact key _ _ _ _ (fun a' h' => ⟨(fun j hj => by cases hj), h'⟩) h
/-- with one writer: a store into a block (the family's parameter) that nothing else of the region reads -/
theorem wp_region_calm_z (Wf : Array Value → World) {id : Nat} {a : Act} {z0 : Array Value} {l : List Oper} (j : Nat) (lq lm lp τ : List Nat) {qo po lo : List Oper} (z1 : Array Value) (hm : P.follows .mixedOrders = true) (hB : calmOk l.toArray [j] lq lm lp τ = true)
    (hq : lq.filterMap (l.toArray[·]?) = qo) (hp : lp.filterMap (l.toArray[·]?) = po) (hl : τ.filterMap (l.toArray[·]?) = lo) (hsz : ∀ z, (Wf z).heap.size = (Wf z0).heap.size)
    (h : QL P l.toArray (fun w' => ∃ z d, w' = (Wf z).ext d) (fun a' => WO P l.toArray (fun w => ∃ d, w = (Wf z0).ext d) (fun w => ∃ d, w = (Wf z1).ext d) (Mvz Wf) [j] a' ∧
      MW P l.toArray (fun w' => ∃ z d, w' = (Wf z).ext d) (Wf z0).heap.size (Mvz Wf) (fun a F => PL P l.toArray (fun a3 => ∀ w', (∃ d, w' = (Wf z1).ext d) → F w' → wpList P l.toArray (only Q) lo a3 w') po a) lm (fun _ => True) (fun _ => False) a') qo a) : (Code.region id l.toArray true).wp P Q a (Wf z0) :=
  wp_region_calm_l (I := fun w => ∃ d, w = (Wf z0).ext d) (D := fun w => ∃ d, w = (Wf z1).ext d) (C := fun w' => ∃ z d, w' = (Wf z).ext d) [j] lq lm lp τ hm hB hq hp hl (fun _ ⟨d, h⟩ => ⟨z0, d, h⟩) (fun _ ⟨d, h⟩ => ⟨z1, d, h⟩) (fun a b h h' => Ext.trans (a := Wf z0) h h') (fun a b h h' => Ext.trans (a := Wf z1) h h') (by simp) (fun _ => ⟨(Wf z0).grow1, World.drew_is_ext _⟩) (fun h => by cases h) (Nat.le_refl _) h
end
end Go
