/- The evaluator: a run of it is a run of the program. -/
import Derived.Test.YtjefclbjjcglkaaGreatDoorEv13
set_option linter.unusedVariables false
set_option linter.unusedSimpArgs false
namespace Go.Ev
open Go
variable {R : Type} {P : Program} {E : Env} {r : R}
theorem bit_spec (m t : Nat) : Nat.beq (Nat.land (Nat.shiftRight m t) 1) 1 = m.testBit t := by
  have e : Nat.land (Nat.shiftRight m t) 1 = (m >>> t) % 2 := Nat.and_one_is_mod _
  rw [e, Nat.testBit_eq_decide_div_mod_eq, Nat.shiftRight_eq_div_pow]
  rw [Bool.eq_iff_iff, Nat.beq_eq, decide_eq_true_eq]
theorem keepK_spec : ∀ {tm : TM} {m : Nat} {K : TM → Option R} {r : R}, TM.keepK tm m K = some r → ∃ tm', K tm' = some r ∧ ∀ t x, tm'.get t = some x → tm.get t = some x ∧ m.testBit t = true
  | .nil, m, K, r, h => ⟨.nil, h, fun t x hx => by cases hx⟩
  | .cons t v tm, m, K, r, h => by
    have h' : bf (Nat.beq (Nat.land (Nat.shiftRight m t) 1) 1) (TM.keepK tm (Nat.xor m (Nat.pow 2 t)) fun r => K (.cons t v r)) (TM.keepK tm m K) = some r := h
    rw [bit_spec] at h'
    cases hb : m.testBit t with
    | true =>
      rw [hb, bf_true] at h'
      obtain ⟨tm', h1, h2⟩ := keepK_spec h'
      refine ⟨_, h1, fun j x hx => ?_⟩
      rw [TM.get_cons] at hx ⊢
      by_cases e : j = t
      · rw [if_pos e] at hx ⊢; rw [e]; exact ⟨hx, hb⟩
      · rw [if_neg e] at hx ⊢
        obtain ⟨q1, q2⟩ := h2 j x hx
        refine ⟨q1, ?_⟩
        have : (m ^^^ 2 ^ t).testBit j = true := q2
        rw [Nat.testBit_xor, Nat.testBit_two_pow] at this
        simpa [Ne.symm e] using this
    | false =>
      rw [hb, bf_false] at h'
      obtain ⟨tm', h1, h2⟩ := keepK_spec h'
      refine ⟨_, h1, fun j x hx => ?_⟩
      obtain ⟨q1, q2⟩ := h2 j x hx
      rw [TM.get_cons]
      by_cases e : j = t
      · rw [e, hb] at q2; cases q2
      · rw [if_neg e]; exact ⟨q1, q2⟩
theorem pruneK_spec {f id : Nat} {tm : TM} {K : TM → Option R} (h1 : pruneK E f id tm K = some r) : ∃ tm', K tm' = some r ∧ ∀ t x, tm'.get t = some x → tm.get t = some x := by
  unfold pruneK at h1
  cases hl : T.get E.lv f with
  | none => rw [hl] at h1; exact ⟨tm, h1, fun _ _ h => h⟩
  | some l =>
    rw [hl] at h1
    cases hm : T.get l id with
    | none =>
      have h2 : (@Option.rec Nat (fun _ => TM → (TM → Option R) → Option R) (fun tm K => K tm) (fun m tm K => TM.keepK tm m K) (T.get l id)) tm K = some r := h1
      rw [hm] at h2; exact ⟨tm, h2, fun _ _ h => h⟩
    | some m =>
      have h2 : (@Option.rec Nat (fun _ => TM → (TM → Option R) → Option R) (fun tm K => K tm) (fun m tm K => TM.keepK tm m K) (T.get l id)) tm K = some r := h1
      rw [hm] at h2
      obtain ⟨tm', h3, h4⟩ := keepK_spec h2
      exact ⟨tm', h3, fun t x hx => (h4 t x hx).1⟩
theorem dstsOk_spec {n : Nat} : ∀ {ops : List Oper}, dstsOk n ops = true → ∀ o d, o ∈ ops → o.dst = some d → d < n
  | [], h, o, d, ho, hd => by cases ho
  | x :: ops, h, o, d, ho, hd => by
    have h' : bf (@Option.rec Tmp (fun _ => Bool) true (fun d => Nat.blt d n) x.dst) (dstsOk n ops) false = true := h
    cases hb : (@Option.rec Tmp (fun _ => Bool) true (fun d => Nat.blt d n) x.dst : Bool) with
    | false => rw [hb] at h'; cases h'
    | true =>
      rw [hb, bf_true] at h'
      rcases List.mem_cons.1 ho with rfl | ho
      · rw [hd] at hb; simpa [Nat.blt_eq] using hb
      · exact dstsOk_spec h' o d ho hd
theorem allN_spec {p : Nat → Bool} : ∀ {l : List Nat}, allN l p = true → ∀ x, x ∈ l → p x = true
  | [], h, x, hx => by cases hx
  | a :: l, h, x, hx => by
    have h' : bf (p a) (allN l p) false = true := h
    cases hb : p a with
    | false => rw [hb] at h'; cases h'
    | true =>
      rw [hb, bf_true] at h'
      rcases List.mem_cons.1 hx with rfl | hx
      · exact hb
      · exact allN_spec h' x hx
/-- regions that draw their order -/
def DrawOK (R : Type) (P : Program) (E : Env) : Prop := ∀ (call : Caller R), CallOK P call → ∀ f id (ops : Array Oper) tm h K r, regDK E call f id ops.toList tm h K = some r → ∃ tm' h' N, K tm' h' = some r ∧ h.nx ≤ h'.nx ∧ (∀ m, N m → h.nx ≤ m ∧ m < h'.nx) ∧ RegS P (.region id ops true) ops tm h.t.get tm' h'.t.get N
variable {rec : Rec R} {f : FuncId} {tm : TM} {k : List Item} {ds : List Nat} {ro : Option Nat} {h : H} {K : AV → H → Option R}
def Any (P : Program) (f : FuncId) (tm : TM) (todo : List Item) (ds : List Nat) (ro : Option Nat) (h : H) (K : AV → H → Option R) (r : R) : Prop := ∃ v h' N, K v h' = some r ∧ Within h h' N ∧ RunS P f tm todo ds ro h.t.get v h'.t.get N
theorem Any.calm {todo todo1 : List Item} (k : Any P f tm todo1 ds ro h K r) (hs : ∀ (B : Base) (φ : Ph) (b : Frame) (a : Act) w cs, Glob φ → FR P φ f tm ds ro b a → step P (lone (b.atR a todo) cs w) = .next (lone (b.atR a todo1) cs w)) : Any P f tm todo ds ro h K r := by
  obtain ⟨v, h', N, q1, q2, q3⟩ := k
  exact ⟨v, h', N, q1, q2, q3.calm hs⟩
/-- a frame's end: by the text's 'return', or behind all -/
theorem leave_any (hE : EOk P E) {jump : Option Code} {todo : List Item} (h1 : (match ro with | none => doneK E f tm ds h K | some l => roundK l h jump K) = some r)
    (hn : ro = none → ∀ (b : Frame) (a : Act) w cs, b.roundOf = none → step P (lone (b.atR a todo) cs w) = .next (lone { b.atR a todo with mode := .returning } cs w))
    (hr : ∀ (b : Frame) (a : Act) w c cs l v w', b.roundOf = some l → b.kind = .normal → (Instr.endRound l jump).run P w = .ok v w' → step P (lone (b.atR a todo) (c :: cs) w) = .next (lone (c.finish v) cs w')) : Any P f tm todo ds ro h K r := by
  cases ro with
  | none =>
    obtain ⟨v, h', q1, q2, q3⟩ := doneK_spec hE h1
    refine ⟨v, h', No, q1, ⟨by omega, fun _ hm => hm.elim⟩, fun B φ b a w hw hg hf hfr => ?_⟩
    obtain ⟨v', w2, p1, p2, fr', p3, p4, p5⟩ := q3 B φ b a w todo hw hfr
    refine ⟨v', w2, ⟨φ, .refl φ, fun _ _ => ⟨rfl, rfl⟩, p1, p2⟩, ?_⟩
    unfold Ends
    rw [show b.roundOf = none from hfr.ro]
    exact ⟨fr', p3, p4, fun cs => .head (hn rfl b a w cs hfr.ro) (p5 cs)⟩
  | some l =>
    obtain ⟨h', q1, q2, q3⟩ := roundK_spec (P := P) h1
    refine ⟨_, h', No, q1, ⟨by omega, fun _ hm => hm.elim⟩, fun B φ b a w hw hg hf hfr => ?_⟩
    obtain ⟨blk, y, z1, z2⟩ := hfr.ro
    obtain ⟨w', p1, p2⟩ := q3 B φ w blk y hw z1
    refine ⟨_, w', ⟨φ, .refl φ, fun _ _ => ⟨rfl, rfl⟩, p2, rfl⟩, ?_⟩
    unfold Ends
    rw [z2]
    exact fun c cs => .one (hr b a w c cs blk _ _ z2 hfr.kind p1)
/-- a region, then the rest -/
theorem region_any {id : Nat} {ops : Array Oper} {dr : Bool} {fn : Func} (hE : EOk P E) (hrec : RunOK P rec) (hfn : T.get E.fs f = some fn) (hd : dstsOk fn.ntmps ops.toList = true) {tm1 : TM} {h1 : H} {N : Nat → Prop} (hwi : Within h h1 N) (hreg : RegS P (.region id ops dr) ops tm h.t.get tm1 h1.t.get N)
    (hrest : (pruneK E f id tm1 fun tm => rec f tm k ds ro h1 K) = some r) : Any P f tm (.code (.region id ops dr) :: k) ds ro h K r := by
  obtain ⟨tm2, h2, hsub⟩ := pruneK_spec hrest
  obtain ⟨v, h', M, q1, q2, q3⟩ := hrec _ _ _ _ _ _ _ _ h2
  refine ⟨v, h', _, q1, ⟨by have := hwi.1; have := q2.1; omega, ?_⟩, StepS.run (N := N) (tm1 := tm2) (g1 := h1.t.get) (ds1 := ds) (todo1 := k) ?_ q3 ?_⟩
  · intro m hm
    rcases hm with hm | hm
    · have := hwi.2 m hm; have := q2.1; omega
    · have := q2.2 m hm; have := hwi.1; omega
  · intro B φ b a w hw hg hf hfr
    have hsz := hfr.size fn (hE.fs _ _ hfn).1
    obtain ⟨a', w', ψ, p1, p2, p3, p4, p5, p6, p7⟩ := hreg B φ b a w hw hg hf hfr.tm (fun o d ho hod => Nat.lt_of_lt_of_le (dstsOk_spec hd o d (by simpa using ho) hod) hsz) hfr.kind
    refine ⟨a', w', ψ, p1, p2, p3, ⟨hfr.fn, hfr.kind, fun t x hx => p4 t x (hsub t x hx), by rw [p5]; exact hfr.ds.mono (MarkR.mono p1), ?_, fun fn' hfn' => by rw [p6]; exact hfr.size fn' hfn'⟩, fun cs => p7 k cs⟩
    have := hfr.ro
    cases ro with
    | none => exact this
    | some l => obtain ⟨blk, y, z1, z2⟩ := this; exact ⟨blk, y, p1.b _ _ z1, z2⟩
  · intro m hm hm'
    have := hwi.2 m hm; have := q2.2 m hm'; omega
theorem codeK_spec (hE : EOk P E) (hD : DrawOK R P E) (hrec : RunOK P rec) {c : Code} (h1 : codeK c E rec f tm k ds ro h K = some r) : Any P f tm (.code c :: k) ds ro h K r := by
  cases c with
  | ret =>
    refine leave_any hE (jump := some .ret) ?_ (fun _ b a w cs hb => stepR_ret hb) (fun b a w c cs l v w' hb hk hr => stepR_round_ret hb hk hr)
    cases ro <;> exact h1
  | skip => exact Any.calm (hrec _ _ _ _ _ _ _ _ h1) fun B φ b a w cs _ _ => stepR_skip
  | seq x y => exact Any.calm (hrec _ _ _ _ _ _ _ _ h1) fun B φ b a w cs _ _ => stepR_seq
  | cond c x y =>
    obtain ⟨cv, h2, hc⟩ := evC_spec (K := fun c => withB c fun c => rec f tm (.code (bf c x y) :: k) ds ro h K) h1
    obtain ⟨t, rfl, h3⟩ := withB_spec h2
    refine Any.calm (hrec _ _ _ _ _ _ _ _ h3) fun B φ b a w cs hg hfr => ?_
    have e := hc φ a hg (hfr.tm.on _)
    have := stepR_cond (P := P) (b := b) (a := a) (k := k) (cs := cs) (w := w) (x := x) (y := y) (t := t) e
    rw [this]
    cases t <;> rfl
  | block id x => exact Any.calm (hrec _ _ _ _ _ _ _ _ h1) fun B φ b a w cs _ _ => stepR_block
  | loop x => exact Any.calm (hrec _ _ _ _ _ _ _ _ h1) fun B φ b a w cs _ _ => stepR_loop
  | exit id =>
    have h2 : (@Option.rec (List Item) (fun _ => Fr R) (leaveExit id) (fun k' => fun E rec f tm _ ds ro h K => rec f tm k' ds ro h K) (exitTo id k)) E rec f tm k ds ro h K = some r := h1
    cases hx : exitTo id k with
    | some k' =>
      rw [hx] at h2
      exact Any.calm (hrec _ _ _ _ _ _ _ _ h2) fun B φ b a w cs _ _ => stepR_exit hx
    | none =>
      rw [hx] at h2
      obtain ⟨l, hl, h3⟩ := ob_some (show ob ro _ = some r from h2)
      subst hl
      exact leave_any hE (ro := some l) (jump := some (.exit id)) h3 (fun e => by cases e) (fun b a w c cs l v w' hb hk hr => stepR_round_exit hb hk hx hr)
  | region id ops dr =>
    obtain ⟨fn, hfn, h2⟩ := ob_some (show ob (T.get E.fs f) _ = some r from h1)
    obtain ⟨hd, h2⟩ := bf_some h2
    cases dr with
    | false =>
      obtain ⟨tm', h', N, q1, q2, q3, q4⟩ := region_s (id := id) hE (callA_ok hE hrec) (K := fun tm h => pruneK E f id tm fun tm => rec f tm k ds ro h K) h2
      exact region_any hE hrec hfn hd ⟨q2, q3⟩ q4 q1
    | true =>
      obtain ⟨tm', h', N, q1, q2, q3, q4⟩ := hD _ (callA_ok hE hrec) f id ops tm h (fun tm h => pruneK E f id tm fun tm => rec f tm k ds ro h K) r h2
      exact region_any hE hrec hfn hd ⟨q2, q3⟩ q4 q1
  | rangeFunc g ps assign body =>
    obtain ⟨fn, hfn, h2⟩ := ob_some (show ob (T.get E.fs f) _ = some r from h1)
    obtain ⟨hps, h2⟩ := bf_some h2
    have hps' : ∀ p, p ∈ ps.toList → p < fn.ntmps := fun p hp => by simpa [Nat.blt_eq] using allN_spec hps p hp
    obtain ⟨gc, h2, hgc⟩ := evC_spec h2
    obtain ⟨gf, c, rfl, h2⟩ := withFn_spec h2
    cases ro with
    | none =>
      obtain ⟨h3, h4, h5, h6⟩ := hnew_spec (show hnew h (.dfr true) (fun d h => rangeK gf c ps.toList assign body fn.ntmps d E rec f tm k (d :: ds) none h K) = some r from h2)
      obtain ⟨v, h', N, q1, q2, q3⟩ := range_core (g := g) hE hrec hfn hps' h4
      refine ⟨v, h', fun m => m = h.nx ∨ N m, q1, ⟨by have := q2.1; omega, fun m hm => ?_⟩, fun B φ b a w hw hg hf hfr => ?_⟩
      · rcases hm with rfl | hm
        · have := q2.1; omega
        · have := q2.2 m hm; omega
      · have hf0 := hf h.nx (.inl rfl)
        have hle : φ.le (φ.put h.nx (w.heap.size, 0, 0)) := Ph.le_put hf0.1
        have hbn : (φ.put h.nx (w.heap.size, 0, 0)).blk h.nx = some (w.heap.size, 0, 0) := by simp [Ph.put]
        have hw1 : HR B (φ.put h.nx (w.heap.size, 0, 0)) h3.t.get (w.alloc (.deferred (some []))) := by
          rw [h6]
          exact hw.alloc hf0 (fun l hl => by cases hl) (.inl rfl) ⟨_, _, _, hbn, by show (w.heap.push _)[_]? = _; simp⟩
        obtain ⟨v', w2, ⟨χ, p1, p2, p3, p4⟩, p5⟩ := q3 B _ b a w (w.alloc (.deferred (some []))) (markD w.heap.size :: a.defers) w.heap.size hw1 (hg.mono hle) (fun m hm => by
          have := q2.2 m hm
          have hne : m ≠ h.nx := by omega
          have := hf m (.inr hm)
          exact ⟨by show (if m = h.nx then _ else _) = _; rw [if_neg hne]; exact this.1, this.2⟩) hfr.fn hfr.kind (hfr.tm.mono hle) (.cons ⟨_, _, hbn, rfl⟩ (hfr.ds.mono (MarkR.mono hle))) hfr.ro hfr.size
          (CR.mono hle _ _ (hgc φ a hg (hfr.tm.on _))) ⟨_, hbn⟩ ⟨[markD w.heap.size], rfl, by
            rw [show b.roundOf = none from hfr.ro]
            have := run_enterLoop_outer (P := P) (w := w) b.fn a.tmps ps assign body
            rw [World.size_alloc]; exact this⟩
        refine ⟨v', w2, ⟨χ, hle.trans p1, fun m hm => ?_, p3, p4⟩, p5⟩
        obtain ⟨e1, e2⟩ := p2 m fun hh => hm (.inr hh)
        have hne : m ≠ h.nx := fun hh => hm (.inl hh)
        exact ⟨e1.trans (by show (if m = h.nx then _ else _) = _; rw [if_neg hne]), e2⟩
    | some l =>
      obtain ⟨oo, hoo, h2⟩ := ob_some (show ob (hget h l) _ = some r from h2)
      cases oo with
      | loop x =>
        obtain ⟨v, h', N, q1, q2, q3⟩ := range_core (g := g) hE hrec hfn hps' (show rangeK gf c ps.toList assign body fn.ntmps x.dfr E rec f tm k ds (some l) h K = some r from h2)
        refine ⟨v, h', N, q1, q2, fun B φ b a w hw hg hf hfr => ?_⟩
        obtain ⟨blk, y, z1, z2⟩ := hfr.ro
        obtain ⟨rec', hh, hl⟩ := loop_at hoo hw z1
        obtain ⟨bd, fd, Sd, d1, d2⟩ := hl.dfr
        obtain ⟨v', w2, p1, p2⟩ := q3 B φ b a w w a.defers bd hw hg hf hfr.fn hfr.kind hfr.tm hfr.ds ⟨blk, y, z1, z2⟩ hfr.size (hgc φ a hg (hfr.tm.on _)) ⟨_, d1⟩ ⟨[], rfl, by
          rw [z2, ← d2]; exact run_enterLoop_inner _ _ _ _ _ hh⟩
        exact ⟨v', w2, p1, p2⟩
      | _ => cases h2
  | _ => cases h1
theorem stepK_ok (hE : EOk P E) (hD : DrawOK R P E) (hrec : RunOK P rec) : RunOK P (stepK E rec) := by
  intro f tm todo ds ro h K r h1
  cases todo with
  | nil =>
    refine leave_any hE (jump := none) ?_ (fun _ b a w cs hb => stepR_end hb) (fun b a w c cs l v w' hb hk hr => stepR_round_end hb hk hr)
    cases ro <;> exact h1
  | cons i k =>
    cases i with
    | code c => exact codeK_spec hE hD hrec h1
    | inBlock id => exact Any.calm (hrec _ _ _ _ _ _ _ _ h1) fun B φ b a w cs _ _ => stepR_inBlock
    | inLoop c => exact Any.calm (hrec _ _ _ _ _ _ _ _ h1) fun B φ b a w cs _ _ => stepR_inLoop
    | beginRound =>
      obtain ⟨l, rfl, h2⟩ := ob_some (show ob ro _ = some r from h1)
      obtain ⟨oo, hoo, h2⟩ := ob_some h2
      cases oo with
      | loop x =>
        obtain ⟨st, pend, f', tm', ps, as, bd, dfr, nt⟩ := x
        have h3 : st = .ready ∧ hset h l (some (.loop (LoopR.mk .busy pend f' tm' ps as bd dfr nt))) (fun h => rec f tm k ds (some l) h K) = some r := by
          cases st <;> first
            | (cases h2; done)
            | exact ⟨rfl, h2⟩
        obtain ⟨rfl, h3⟩ := h3
        obtain ⟨h4, h5, h6, h7⟩ := hset_spec h3
        obtain ⟨v, h', N, q1, q2, q3⟩ := hrec _ _ _ _ _ _ _ _ h5
        refine ⟨v, h', _, q1, ⟨by have := q2.1; omega, ?_⟩, StepS.run (N := No) (tm1 := tm) (g1 := h4.t.get) (ds1 := ds) (todo1 := k) ?_ q3 fun m hm => hm.elim⟩
        · intro m hm
          rcases hm with hm | hm
          · exact hm.elim
          · have := q2.2 m hm; omega
        · intro B φ b a w hw hg hf hfr
          obtain ⟨blk, y, z1, z2⟩ := hfr.ro
          obtain ⟨rec', hh, hl⟩ := loop_at hoo hw z1
          have hst := hl.st
          simp only at hst
          refine ⟨a, w.putObj blk (.loop { rec' with state := .busy }), φ, .refl φ, fun _ _ => ⟨rfl, rfl⟩, ?_, hfr, fun cs => .one (stepR_beginRound z2 (run_beginRound hh hst))⟩
          rw [h7]
          exact loop_put hoo hw z1 ⟨rfl, hl.pend, hl.fn, hl.tmps, hl.ps, hl.assign, hl.body, hl.dfr, hl.szP, hl.sz⟩ hh
      | _ => cases h2
    | _ => cases h1
theorem run_ok (hE : EOk P E) (hD : DrawOK R P E) : ∀ n, RunOK P (run (R := R) E n)
  | 0 => fun f tm todo ds ro h K r h1 => by cases h1
  | n + 1 => stepK_ok hE hD (run_ok hE hD n)
end Go.Ev
