/- The evaluator: calls, rounds, ranges over a function. -/
import Derived.Test.YtjefclbjjcglkaaGreatDoorEv12
set_option linter.unusedVariables false
set_option linter.unusedSimpArgs false
namespace Go.Ev
open Go
variable {R : Type} {P : Program} {E : Env} {r : R}
theorem argsT_spec : ∀ {l : List AV} {i : Nat} {t : TM} {K : TM → Option R} {r : R}, argsT l i t K = some r → ∃ t', K t' = some r ∧ ∀ j x, t'.get j = some x → (∃ k, j = i + k ∧ l[k]? = some x) ∨ t.get j = some x
  | [], i, t, K, r, h => ⟨t, h, fun j x hx => .inr hx⟩
  | a :: l, i, t, K, r, h => by
    have h' : (fN (Nat.succ i) fun i' => argsT l i' (.cons i a t) K) = some r := h
    rw [fN_eq] at h'
    obtain ⟨t', h1, h2⟩ := argsT_spec h'
    refine ⟨t', h1, fun j x hx => ?_⟩
    rcases h2 j x hx with ⟨k, rfl, hk⟩ | hj
    · exact .inl ⟨k + 1, by omega, by simpa using hk⟩
    · rw [TM.get_cons] at hj
      by_cases e : j = i
      · rw [if_pos e] at hj; cases hj; exact .inl ⟨0, by omega, rfl⟩
      · rw [if_neg e] at hj; exact .inr hj
theorem paramsT_spec : ∀ {ps : List Tmp} {args : List AV} {tm : TM} {K : TM → Option R} {r : R}, paramsT ps args tm K = some r → ∃ tm', K tm' = some r ∧ ps.length = args.length ∧ ∀ φ (ts : Array Value) vs, TMR φ tm ts → A2 (AR φ) args vs → (∀ p, p ∈ ps → p < ts.size) →
    TMR φ tm' ((ps.zip vs).foldl (fun ts (p : Tmp × Value) => ts.setIfInBounds p.1 p.2) ts) ∧ ((ps.zip vs).foldl (fun ts (p : Tmp × Value) => ts.setIfInBounds p.1 p.2) ts).size = ts.size
  | [], [], tm, K, r, h => ⟨tm, h, rfl, fun φ ts vs ht hv hp => by cases hv; exact ⟨ht, rfl⟩⟩
  | [], _ :: _, tm, K, r, h => by cases h
  | p :: ps, [], tm, K, r, h => by cases h
  | p :: ps, a :: l, tm, K, r, h => by
    obtain ⟨tm', h1, h2, h3⟩ := paramsT_spec (show paramsT ps l (.cons p a tm) K = some r from h)
    refine ⟨tm', h1, by simp [h2], fun φ ts vs ht hv hp => ?_⟩
    cases hv with
    | cons hq htl =>
      rename_i v vs
      obtain ⟨q1, q2⟩ := h3 φ (ts.setIfInBounds p v) vs (ht.put (hp p (by simp)) hq) htl (fun q hq => by simpa using hp q (by simp [hq]))
      exact ⟨q1, by rw [List.zip_cons_cons, List.foldl_cons]; simpa using q2⟩
/-- the loop's record in the world -/
theorem loop_at {h : H} {l : Nat} {x : LoopR} (hx : h.t.get l = some (.loop x)) {B : Base} {φ : Ph} {w : World} (hw : HR B φ h.t.get w) {b : Nat} {y : Nat × Nat} (hb : φ.blk l = some (b, y)) : ∃ rec, w.heap[b]? = some (.loop rec) ∧ LR φ x rec := by
  obtain ⟨b', f', S', rec, q', hh, hl⟩ := hw.obj _ _ hx
  rw [hb] at q'
  obtain ⟨rfl, _⟩ : b = b' ∧ y = (f', S') := by simpa using q'
  exact ⟨rec, hh, hl⟩
theorem loop_put {h : H} {l : Nat} {x x' : LoopR} (hx : h.t.get l = some (.loop x)) {B : Base} {φ : Ph} {w : World} (hw : HR B φ h.t.get w) {b : Nat} {y : Nat × Nat} (hb : φ.blk l = some (b, y)) {rec : Loop} (hl : LR φ x' rec) {rec0 : Loop} (hh : w.heap[b]? = some (.loop rec0)) :
    HR B φ (GM.set h.t.get l (some (.loop x'))) (w.putObj b (.loop rec)) := by
  obtain ⟨f, S⟩ := y
  refine hw.upd (b := b) (x := (f, S)) (fun _ _ h => h) hx rfl (fun l hl => by cases hl) hb ?_ ?_ (fun k hk => World.putObj_heap_other hk) World.putObj_size rfl rfl rfl
  · exact ⟨b, f, S, rec, hb, World.putObj_heap_same (Array.getElem?_eq_some_iff.1 hh).1, hl⟩
  · intro m p y hmn hgm hp hbm
    have := hw.apart l m _ p b _ y (Ne.symm hmn) hx hgm rfl hp hb hbm
    cases this
theorem callFunc_run (hE : EOk P E) {f : FuncId} {fn : Func} {c : Code} (hf : T.get E.fs f = some fn) (hc : fn.body = some c) (args : Array Value) (w : World) : (callFunc f args).run P w = .ok (.enter f args) w := by
  obtain ⟨q1, q2⟩ := hE.fs _ _ hf
  unfold callFunc
  have q3 : ¬ fn.name = "runtime.NumGoroutine" := by simpa using q2
  simp [program, Sem.run, q1, q3, hc]
theorem rdOk_spec {h : H} : ∀ {l : List (Nat × List CV)}, footOk l h = true → ∀ p, p ∈ l → (∃ sb, h.t.get p.1 = some (.cells p.2 sb)) ∨ h.t.get p.1 = some (.ro p.2)
  | [], _, p, hp => absurd hp (by simp)
  | q :: l, h1, p, hp => by
    obtain ⟨h2, h3⟩ := bf_and (show bf (rdOk (hget h q.1) q.2) (footOk l h) false = true from h1)
    rcases List.mem_cons.1 hp with rfl | hp
    · cases ho : hget h p.1 with
      | none => rw [ho] at h2; cases h2
      | some o =>
        rw [ho] at h2
        cases o with
        | cells m s => exact .inl ⟨s, by rw [← eqCs_spec (show eqCs m p.2 = true from h2)]; exact ho⟩
        | ro m => exact .inr (by rw [← eqCs_spec (show eqCs m p.2 = true from h2)]; exact ho)
        | _ => cases h2
    · exact rdOk_spec h3 p hp
theorem eqVs_spec : ∀ {l m : List AV}, eqVs l m = true → l = m
  | [], [], _ => rfl
  | [], _ :: _, h => by cases h
  | _ :: _, [], h => by cases h
  | a :: l, b :: m, h => by
    obtain ⟨h1, h2⟩ := bf_and (show bf (eqV a b) (eqVs l m) false = true from h)
    rw [eqV_spec h1, eqVs_spec h2]
theorem fitL_spec {va : Nat → Int} : ∀ {l m : List (Int × Int × Int)} {i : Nat}, fitL l m = true → lin va i l = lin va i m ∧ (rng va i m → rng va i l)
  | [], m, i, h => ⟨(no0_spec va (show no0 m = true from h)).symm, fun _ => trivial⟩
  | _ :: _, [], _, h => by cases h
  | t :: l, u :: m, i, h => by
    obtain ⟨h1, h2⟩ := bf_and (show bf (bf (eqI t.1 u.1) (bf (ltI u.2.1 t.2.1) false (bf (ltI t.2.2 u.2.2) false true)) false) (fitL l m) false = true from h)
    obtain ⟨h3, h4⟩ := bf_and h1
    obtain ⟨e1, e2⟩ := fitL_spec (va := va) (i := i + 1) h2
    rw [eqI_eq, decide_eq_true_eq] at h3
    have g1 : ltI u.2.1 t.2.1 = false := by cases hq : ltI u.2.1 t.2.1 <;> rw [hq] at h4 <;> first | rfl | cases h4
    rw [g1, bf_false] at h4
    have g2 : ltI t.2.2 u.2.2 = false := by cases hq : ltI t.2.2 u.2.2 <;> rw [hq] at h4 <;> first | rfl | cases h4
    rw [ltI_eq, decide_eq_false_iff_not] at g1 g2
    refine ⟨?_, fun hr => ⟨⟨?_, ?_⟩, e2 hr.2⟩⟩
    · show t.1 * va i + lin va (i + 1) l = u.1 * va i + lin va (i + 1) m
      rw [h3, e1]
    · have := hr.1.1; omega
    · have := hr.1.2; omega
theorem fitC_spec {φ : Ph} {x y : CV} {v : Value} (h : fitC x y = true) (hv : CR φ y v) : CR φ x v := by
  have hx : fitC x y = eqC x y ∨ ∃ k c l, x = .y k c l := by cases x <;> first | exact .inr ⟨_, _, _, rfl⟩ | exact .inl rfl
  rcases hx with hx | ⟨k, c, l, rfl⟩
  · rw [hx] at h; rw [eqC_spec h]; exact hv
  · cases y with
    | y k' d m =>
      obtain ⟨h1, h2⟩ := bf_and (show bf (bf (sameI k k') (eqI c d) false) (fitL l m) false = true from h)
      obtain ⟨h3, h4⟩ := bf_and h1
      obtain rfl := sameI_spec h3
      rw [eqI_eq, decide_eq_true_eq] at h4
      subst h4
      obtain ⟨e1, e2⟩ := fitL_spec (va := φ.va) (i := 0) h2
      obtain ⟨q1, q2, q3⟩ := hv
      exact ⟨by rw [e1]; exact q1, e2 q2, q3⟩
    | _ => cases h
theorem fitCs_spec {φ : Ph} : ∀ {l m : List CV} {vs : List Value}, fitCs l m = true → A2 (CR φ) m vs → A2 (CR φ) l vs
  | [], [], _, _, h => h
  | [], _ :: _, _, h, _ => by cases h
  | _ :: _, [], _, h, _ => by cases h
  | a :: l, b :: m, _, h, .cons g1 g2 => by
    obtain ⟨h1, h2⟩ := bf_and (show bf (fitC a b) (fitCs l m) false = true from h)
    exact .cons (fitC_spec h1 g1) (fitCs_spec h2 g2)
theorem fitV_spec {φ : Ph} {x y : AV} {v : Value} (h : fitV x y = true) (hv : AR φ y v) : AR φ x v := by
  cases x with
  | c x =>
    cases y with
    | c y => exact fitC_spec (show fitC x y = true from h) hv
    | _ => cases h
  | agg l =>
    cases y with
    | agg m => obtain ⟨vs, e, q⟩ := hv; exact ⟨vs, e, fitCs_spec (show fitCs l m = true from h) q⟩
    | _ => cases h
  | u => rw [eqV_spec (show eqV .u y = true from h)]; exact hv
  | tup l => rw [eqV_spec (show eqV (.tup l) y = true from h)]; exact hv
theorem fitVs_spec {φ : Ph} : ∀ {l m : List AV} {vs : List Value}, fitVs l m = true → A2 (AR φ) m vs → A2 (AR φ) l vs
  | [], [], _, _, h => h
  | [], _ :: _, _, h, _ => by cases h
  | _ :: _, [], _, h, _ => by cases h
  | a :: l, b :: m, _, h, .cons g1 g2 => by
    obtain ⟨h1, h2⟩ := bf_and (show bf (fitV a b) (fitVs l m) false = true from h)
    exact .cons (fitV_spec h1 g1) (fitVs_spec h2 g2)
theorem sumK_spec {f : FuncId} {args : List AV} {h : H} {K : AV → H → Option R} {X : Option R} : ∀ {l : List Sm}, (∀ s, s ∈ l → SmOK P f s) → sumK l args h K X = some r → (∃ v h' N, K v h' = some r ∧ h.nx ≤ h'.nx ∧ (∀ m, N m → h.nx ≤ m ∧ m < h'.nx) ∧ AskS P (.enter f args) h.t.get v h'.t.get N) ∨ X = some r
  | [], _, h1 => .inr h1
  | s :: l, hs, h1 => by
    have h1 : bf (bf (fitVs s.args args) (footOk s.foot h) false) (resS s.res h K) (sumK l args h K X) = some r := h1
    cases hb : bf (fitVs s.args args) (footOk s.foot h) false with
    | false => rw [hb] at h1; exact sumK_spec (fun x hx => hs x (List.mem_cons_of_mem _ hx)) h1
    | true =>
      rw [hb, bf_true] at h1
      obtain ⟨h2, h3⟩ := bf_and hb
      have hS0 := hs s (List.mem_cons_self ..) h.t.get h.nx (rdOk_spec h3)
      have hS : AskS P (.enter f args) h.t.get (s.res.v h.nx) (s.res.g h.t.get h.nx) (s.res.n h.nx) := fun B φ w vs q1 q2 q3 q4 => hS0 B φ w vs q1 q2 q3 (fitVs_spec h2 q4)
      left
      cases hr : s.res with
      | val v =>
        rw [hr] at h1 hS
        exact ⟨_, h, _, h1, Nat.le_refl _, fun m hm => hm.elim, hS⟩
      | row l len cap sz =>
        rw [hr] at h1 hS
        obtain ⟨h', h4, h5, h6⟩ := hnew_spec (show hnew h (.cells l none) (fun n h => K (.c (.sl n 0 len cap sz false)) h) = some r from h1)
        exact ⟨_, h', (· = h.nx), h4, by omega, fun m hm => by have hm : m = h.nx := hm; omega, by rw [h6]; exact hS⟩
theorem sumsK_spec (hE : EOk P E) {f : FuncId} {args : List AV} {h : H} {K : AV → H → Option R} {X : Option R} (h1 : sumsK E f args h K X = some r) : (∃ v h' N, K v h' = some r ∧ h.nx ≤ h'.nx ∧ (∀ m, N m → h.nx ≤ m ∧ m < h'.nx) ∧ AskS P (.enter f args) h.t.get v h'.t.get N) ∨ X = some r := by
  unfold sumsK at h1
  cases hl : T.get E.sm f with
  | none => rw [hl] at h1; exact .inr h1
  | some l => rw [hl] at h1; exact sumK_spec (hE.sm f l · hl) h1
theorem callA_ok (hE : EOk P E) {rec : Rec R} (hrec : RunOK P rec) : CallOK P (callA E rec) := by
  intro a h K r h1
  cases a with
  | enter f args =>
    rcases sumsK_spec hE (show sumsK E f args h K _ = some r from h1) with h1 | h1
    · exact h1
    obtain ⟨fn, hfn, h1⟩ := ob_some (show ob (T.get E.fs f) _ = some r from h1)
    obtain ⟨c, hc, h1⟩ := ob_some h1
    obtain ⟨hle, h1⟩ := bf_some h1
    obtain ⟨t', h2, ht'⟩ := argsT_spec h1
    obtain ⟨v, h', N, q1, q2, q3⟩ := hrec _ _ _ _ _ _ _ _ h2
    refine ⟨v, h', N, q1, q2.1, q2.2, fun B φ w vs hw hg hf hv => ⟨fun w' => callFunc_run hE hfn hc _ _, ?_⟩⟩
    have hlen := hv.len
    have hle : args.length ≤ fn.ntmps := by rw [← lenN_eq]; exact Nat.le_of_ble_eq_true hle
    let b : Frame := { fn := f, tmps := #[], todo := [], defers := [], mode := .run, kind := .normal, roundOf := none }
    let a : Act := { tmps := vs.toArray ++ Array.replicate (fn.ntmps - vs.toArray.size) undef, defers := [] }
    have henter : Frame.enter P f vs.toArray .normal = b.atR a [.code c] := by
      simp [Frame.enter, Frame.atR, (hE.fs _ _ hfn).1, hc, b, a]
    have hfr : FR P φ f t' [] none b a := by
      refine ⟨rfl, rfl, fun t x hx => ?_, .nil, rfl, fun fn' hfn' => ?_⟩
      · rcases ht' t x hx with ⟨k, hk, hx'⟩ | hx'
        · obtain ⟨y, hy, hr⟩ := hv.get hx'
          have hkl := (List.getElem?_eq_some_iff.1 hy).1
          have : a.tmps.getD t undef = y := by
            show (vs.toArray ++ Array.replicate _ undef).getD t undef = y
            rw [Array.getD_eq_getD_getElem?, Array.getElem?_append_left (by simp; omega), hk, Nat.zero_add, List.getElem?_toArray, hy]; rfl
          rw [this]; exact hr
        · cases hx'
      · rw [(hE.fs _ _ hfn).1] at hfn'
        cases hfn'
        show fn.ntmps ≤ (vs.toArray ++ Array.replicate _ undef).size
        simp; omega
    obtain ⟨v', w2, p1, p2⟩ := q3 B φ b a w hw hg hf hfr
    obtain ⟨fr', p3, p4, p5⟩ : ∃ fr' : Frame, fr'.fn = b.fn ∧ fr'.leaving P w2 (.returned v') ∧ ∀ cs, Steps P (lone (b.atR a [.code c]) cs w) (lone fr' cs w2) := p2
    exact ⟨v', w2, fr', p1, p3, p4, fun cs => by rw [henter]; exact p5 cs⟩
  | round l args =>
    obtain ⟨oo, hoo, h1⟩ := ob_some (show ob (hget h l) _ = some r from h1)
    cases oo with
    | loop x =>
      obtain ⟨st, pend, f, tm, ps, as, bd, dfr, nt⟩ := x
      obtain ⟨fn, hfn, h1⟩ := ob_some (show ob (T.get E.fs f) _ = some r from h1)
      obtain ⟨hnt, h1⟩ := bf_some h1
      have hnt : fn.ntmps ≤ nt := Nat.le_of_ble_eq_true hnt
      obtain ⟨t', h2, hpl, ht'⟩ := paramsT_spec h1
      obtain ⟨v, h', N, q1, q2, q3⟩ := hrec _ _ _ _ _ _ _ _ h2
      refine ⟨v, h', N, q1, q2.1, q2.2, fun B φ w vs hw hg hf hv bb y hbb => ?_⟩
      obtain ⟨rec', hh, hl⟩ := loop_at hoo hw hbb
      have hsz : vs.toArray.size = rec'.params.size := by
        have e1 := hl.ps
        simp only at e1
        have : rec'.params.size = ps.length := by rw [← e1]; simp
        have := hv.len
        simp; omega
      have hy := run_yield (P := P) hh hsz
      refine ⟨_, _, _, _, hy, ?_⟩
      have hfold : ((rec'.params.zip vs.toArray).foldl (fun tmps (t, a) => tmps.setIfInBounds t a) rec'.tmps) = (ps.zip vs).foldl (fun ts (p : Tmp × Value) => ts.setIfInBounds p.1 p.2) rec'.tmps := by
        rw [← Array.foldl_toList, Array.toList_zip, hl.ps]
      obtain ⟨t1, t2⟩ := ht' φ rec'.tmps vs hl.tmps hv hl.szP
      rw [hfold]
      let b : Frame := { fn := rec'.fn, tmps := #[], todo := [], defers := [], mode := .run, kind := .normal, roundOf := some bb }
      let a : Act := { tmps := (ps.zip vs).foldl (fun ts (p : Tmp × Value) => ts.setIfInBounds p.1 p.2) rec'.tmps, defers := [] }
      have hfr : FR P φ f t' [] (some l) b a := by
        refine ⟨hl.fn, rfl, t1, .nil, ⟨bb, y, hbb, rfl⟩, fun fn' hfn' => ?_⟩
        rw [(hE.fs _ _ hfn).1] at hfn'
        cases hfn'
        show fn.ntmps ≤ a.tmps.size
        have := hl.sz
        simp only at this
        show fn.ntmps ≤ ((ps.zip vs).foldl _ rec'.tmps).size
        omega
      obtain ⟨v', w2, p1, p2⟩ := q3 B φ b a w hw hg hf hfr
      refine ⟨v', w2, p1, ?_⟩
      have e2 := hl.assign
      have e3 := hl.body
      simp only at e2 e3
      have hround : Frame.round bb rec'.fn ((ps.zip vs).foldl (fun ts (p : Tmp × Value) => ts.setIfInBounds p.1 p.2) rec'.tmps) rec'.assign rec'.body .normal = b.atR a [.code as, .beginRound, .code bd] := by
        rw [e2, e3]; rfl
      rw [hround]
      exact p2
    | _ => cases h1
/-- a round's frame ends by 'jump' -/
theorem roundK_spec {l : Nat} {h : H} {jump : Option Code} {K : AV → H → Option R} (h1 : roundK l h jump K = some r) : ∃ h', K (.c (.b jump.isNone)) h' = some r ∧ h'.nx = h.nx ∧ ∀ B φ w b y, HR B φ h.t.get w → φ.blk l = some (b, y) → ∃ w', (Instr.endRound b jump).run P w = .ok (.bool jump.isNone) w' ∧ HR B φ h'.t.get w' := by
  obtain ⟨oo, hoo, h1⟩ := ob_some h1
  cases oo with
  | loop x =>
    obtain ⟨st, pend, f, tm, ps, as, bd, dfr, nt⟩ := x
    have h2 : hset h l (some (.loop (LoopR.mk (match jump with | none => .ready | some _ => .done) jump f tm ps as bd dfr nt))) (fun h => K (.c (.b jump.isNone)) h) = some r := by
      cases jump <;> exact h1
    obtain ⟨h', h3, h4, h5⟩ := hset_spec h2
    refine ⟨h', h3, h4, fun B φ w b y hw hb => ?_⟩
    obtain ⟨rec', hh, hl⟩ := loop_at hoo hw hb
    refine ⟨_, run_endRound jump hh, ?_⟩
    rw [h5]
    refine loop_put hoo hw hb ⟨?_, rfl, hl.fn, hl.tmps, hl.ps, hl.assign, hl.body, hl.dfr, hl.szP, hl.sz⟩ hh
    cases jump <;> rfl
  | _ => cases h1
/-! ### ranges over a function -/
theorem run_enterLoop_inner {w : World} (fn : FuncId) (tmps : Array Value) (ps : Array Tmp) (assign body : Code) {l : Nat} {x : Loop} (h : w.heap[l]? = some (.loop x)) :
    (Instr.enterLoop fn tmps ps assign body (some l)).run P w = .ok (w.heap.size, []) (w.alloc (.loop { state := .ready, pending := none, fn, tmps, params := ps, assign, body, defers := x.defers })) := by
  unfold Instr.enterLoop
  simp only [Sem.run_bind, run_getLoop h, Result.andThen_ok, Sem.run_pure, run_newObj_alloc]
/-- behind a range -/
theorem endLoopK_spec {l : Nat} {rec : Rec R} {f : FuncId} {tm : TM} {k : List Item} {ds : List Nat} {ro : Option Nat} {h : H} {K : AV → H → Option R} (h1 : endLoopK l E rec f tm k ds ro h K = some r) :
    ∃ jump h', rec f tm ((jump.map Item.code).toList ++ k) ds ro h' K = some r ∧ h'.nx = h.nx ∧ ∀ B φ w b y, HR B φ h.t.get w → φ.blk l = some (b, y) → ∃ w', (Instr.endLoop b).run P w = .ok jump w' ∧ HR B φ h'.t.get w' := by
  obtain ⟨oo, hoo, h1⟩ := ob_some h1
  cases oo with
  | loop x =>
    obtain ⟨st, pend, f', tm', ps, as, bd, dfr, nt⟩ := x
    have h2 : st ≠ .busy ∧ hset h l (some (.loop (LoopR.mk .exhausted pend f' tm' ps as bd dfr nt))) (fun h => rec f tm ((pend.map Item.code).toList ++ k) ds ro h K) = some r := by
      cases st <;> first
        | (cases h1; done)
        | (refine ⟨by simp, ?_⟩; cases pend <;> exact h1)
    obtain ⟨hst, h2⟩ := h2
    obtain ⟨h', h3, h4, h5⟩ := hset_spec h2
    refine ⟨pend, h', h3, h4, fun B φ w b y hw hb => ?_⟩
    obtain ⟨rec', hh, hl⟩ := loop_at hoo hw hb
    have hst' : rec'.state ≠ .busy := by rw [hl.st]; exact hst
    have hp := hl.pend
    simp only at hp
    refine ⟨w.putObj b (.loop { rec' with state := .exhausted }), ?_, ?_⟩
    · rw [← hp]
      exact run_endLoop (P := P) hh hst'
    · rw [h5]
      exact loop_put hoo hw hb ⟨rfl, hl.pend, hl.fn, hl.tmps, hl.ps, hl.assign, hl.body, hl.dfr, hl.szP, hl.sz⟩ hh
  | _ => cases h1
theorem range_core (hE : EOk P E) {rec : Rec R} (hrec : RunOK P rec) {f : FuncId} {tm : TM} {g : Operand} {gf : FuncId} {c : Nat} {ps : Array Tmp} {assign body : Code} {k : List Item} {d : Nat} {ds : List Nat} {ro : Option Nat} {h : H} {K : AV → H → Option R} {fn : Func} (hfn : T.get E.fs f = some fn)
    (hps : ∀ p, p ∈ ps.toList → p < fn.ntmps) (h1 : rangeK gf c ps.toList assign body fn.ntmps d E rec f tm k ds ro h K = some r) :
    ∃ v h' N, K v h' = some r ∧ Within h h' N ∧
      ∀ B φ (b : Frame) (a : Act) w0 w (df : List Deferred) blkD, HR B φ h.t.get w → Glob φ → Fresh φ N → b.fn = f → b.kind = .normal → TMR φ tm a.tmps → A2 (MarkR φ) ds df → (match ro with | none => b.roundOf = none | some l => ∃ blk y, φ.blk l = some (blk, y) ∧ b.roundOf = some blk) → (∀ fn, P.funcs[f]? = some fn → fn.ntmps ≤ a.tmps.size) →
        CR φ (.fn gf c) (a.eval g) → (∃ y, φ.blk d = some (blkD, y)) → (∃ mark, df = mark ++ a.defers ∧ (Instr.enterLoop b.fn a.tmps ps assign body b.roundOf).run P w0 = .ok (w.heap.size, mark) (w.alloc (.loop { state := .ready, pending := none, fn := b.fn, tmps := a.tmps, params := ps, assign, body, defers := blkD }))) →
        ∃ v' w2, Aft B φ h'.t.get N v v' w2 ∧ Ends P b a (.code (.rangeFunc g ps assign body) :: k) w0 v' w2 := by
  obtain ⟨h2, h3, h4, h5⟩ := hnew_spec (show hnew h (.loop (LoopR.mk .ready none f tm ps.toList assign body d fn.ntmps)) (fun l h => capsK h c [.c (.yl l)] fun args => callA E rec (.enter gf args) h fun _ h => endLoopK l E rec f tm k ds ro h K) = some r from h1)
  obtain ⟨args, h6, hcap⟩ := capsK_spec (f := gf) h3
  obtain ⟨v1, h7, N1, h8, n1, n2, hask⟩ := callA_ok hE hrec _ _ _ _ h6
  obtain ⟨jump, h9, h10, h11, hend⟩ := endLoopK_spec (P := P) h8
  obtain ⟨v, h', N2, h12, m1, hrun⟩ := hrec _ _ _ _ _ _ _ _ h10
  refine ⟨v, h', fun m => m = h.nx ∨ N1 m ∨ N2 m, h12, ⟨by have := m1.1; omega, fun m hm => ?_⟩, ?_⟩
  · rcases hm with rfl | hm | hm
    · have := m1.1; omega
    · have := n2 m hm; have := m1.1; omega
    · have := m1.2 m hm; omega
  intro B φ b a w0 w df blkD hw hg hf hbf hbk htm hds hro hsz hgv hd hmark
  obtain ⟨mark, rfl, henter⟩ := hmark
  obtain ⟨yD, hyD⟩ := hd
  -- the record
  have hfn1 := hf h.nx (.inl rfl)
  let lrec : Loop := { state := .ready, pending := none, fn := b.fn, tmps := a.tmps, params := ps, assign, body, defers := blkD }
  let ψ := φ.put h.nx (w.heap.size, 0, 0)
  have hle : φ.le ψ := Ph.le_put hfn1.1
  have hfnt : fn.ntmps ≤ a.tmps.size := hsz fn (hE.fs _ _ hfn).1
  have hw1 : HR B ψ h2.t.get (w.alloc (.loop lrec)) := by
    rw [h5]
    refine hw.alloc hfn1 (fun l hl => by cases hl) (.inl rfl) ⟨w.heap.size, 0, 0, lrec, by simp [Ph.put], by show (w.heap.push _)[_]? = _; simp, ?_⟩
    exact ⟨rfl, rfl, hbf, htm.mono hle, rfl, rfl, rfl, ⟨blkD, yD.1, yD.2, hle.b _ _ hyD, rfl⟩, fun p hp => Nat.lt_of_lt_of_le (hps p hp) hfnt, hfnt⟩
  have hl : ψ.blk h.nx = some (w.heap.size, 0, 0) := by simp [ψ, Ph.put]
  -- the call
  obtain ⟨cs, e, hargs⟩ := hcap B ψ (w.alloc (.loop lrec)) [.func (.yield w.heap.size) #[] #[]] (a.eval g) hw1 (.cons ⟨_, _, _, hl, rfl⟩ .nil) (CR.mono hle _ _ hgv)
  have hfr1 : Fresh ψ N1 := fun m hm => by
    have := n2 m hm
    have hne : m ≠ h.nx := by omega
    have := hf m (.inr (.inl hm))
    exact ⟨by show (if m = h.nx then _ else _) = _; rw [if_neg hne]; exact this.1, this.2⟩
  obtain ⟨q1, v1', w2, fr, ⟨χ, p1, p2, p3, p4⟩, q3, q4, q5⟩ := hask B ψ (w.alloc (.loop lrec)) _ hw1 (hg.mono hle) hfr1 hargs
  obtain ⟨w3, e1, hw3⟩ := hend B χ w2 w.heap.size (0, 0) p3 (p1.b _ _ hl)
  have hle2 := hle.trans p1
  -- the rest
  have hfr2 : Fresh χ N2 := fun m hm => by
    have i1 := m1.2 m hm
    have hne : m ≠ h.nx := by omega
    have hn1 : ¬ N1 m := fun hh => by have := n2 m hh; omega
    have := hf m (.inr (.inr hm))
    obtain ⟨e3, e4⟩ := p2 m hn1
    rw [e3, e4]
    exact ⟨by show (if m = h.nx then _ else _) = _; rw [if_neg hne]; exact this.1, this.2⟩
  have hFR : FR P χ f tm ds ro b { a with defers := mark ++ a.defers } := by
    refine ⟨hbf, hbk, htm.mono hle2, hds.mono (MarkR.mono hle2), ?_, hsz⟩
    cases ro with
    | none => exact hro
    | some l => obtain ⟨blk, y, z1, z2⟩ := hro; exact ⟨blk, y, hle2.b _ _ z1, z2⟩
  obtain ⟨v', w4, ⟨ξ, z1, z2, z3, z4⟩, hends⟩ := hrun B χ b { a with defers := mark ++ a.defers } w3 hw3 (hg.mono hle2) hfr2 hFR
  refine ⟨v', w4, ⟨ξ, hle2.trans z1, fun m hm => ?_, z3, z4⟩, ?_⟩
  · obtain ⟨e3, e4⟩ := z2 m fun hh => hm (.inr (.inr hh))
    obtain ⟨e5, e6⟩ := p2 m fun hh => hm (.inr (.inl hh))
    have hne : m ≠ h.nx := fun hh => hm (.inl hh)
    exact ⟨e3.trans (e5.trans (by show (if m = h.nx then _ else _) = _; rw [if_neg hne])), e4.trans e6⟩
  · -- the steps
    have hres : (resolve a.eval (rangeCall g w.heap.size) 0).run P (w.alloc (.loop lrec)) = .ok { target := .fn (.func gf) cs, args := #[.func (.yield w.heap.size) #[] #[]] } (w.alloc (.loop lrec)) := by
      simp only [resolve, rangeCall, e, Deferred.ofValue, Sem.run_pure]
      congr 2
      apply Array.ext'
      simp
      rfl
    have harr : (#[.func (.yield w.heap.size) #[] #[]] : Array Value) ++ cs = ([.func (.yield w.heap.size) #[] #[]] ++ cs.toList : List Value).toArray := by apply Array.ext'; simp
    have hinv : (invoke (.fn (.func gf) cs) #[.func (.yield w.heap.size) #[] #[]]).run P (w.alloc (.loop lrec)) = .ok (.enter gf ([.func (.yield w.heap.size) #[] #[]] ++ cs.toList : List Value).toArray) (w.alloc (.loop lrec)) := by
      simp only [invoke]
      rw [harr]; exact q1 _
    have hstep : ∀ cs', Steps P (lone (b.atR a (.code (.rangeFunc g ps assign body) :: k)) cs' w0) (lone (b.atR { a with defers := mark ++ a.defers } ((jump.map Item.code).toList ++ k)) cs' w3) := by
      intro cs'
      refine .head (stepR_rangeFunc henter hres hinv) ((q5 _).trans (.head (step_leave_returned q4) ?_))
      rw [finish_atR_inRangeFunc]
      exact .one (stepR_endRangeFunc e1)
    exact hends.pre hstep
end Go.Ev
