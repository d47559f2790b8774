/- The evaluator: frames; how they end. -/
import Derived.Test.YtjefclbjjcglkaaGreatDoorEv11
import Derived.RangeFuncRecord
import Derived.RangeFuncLeaves
set_option linter.unusedVariables false
set_option linter.unusedSimpArgs false
namespace Go.Ev
open Go
variable {R : Type} {P : Program} {E : Env} {r : R}
def markD (b : Nat) : Deferred := { target := .collected b, args := #[] }
def MarkR (φ : Ph) (d : Nat) (x : Deferred) : Prop := ∃ b y, φ.blk d = some (b, y) ∧ x = markD b
theorem MarkR.mono {φ ψ : Ph} (h : φ.le ψ) (d : Nat) (x : Deferred) (k : MarkR φ d x) : MarkR ψ d x := let ⟨b, y, q, e⟩ := k; ⟨b, y, h.b _ _ q, e⟩
structure FR (P : Program) (φ : Ph) (f : FuncId) (tm : TM) (ds : List Nat) (ro : Option Nat) (b : Frame) (a : Act) : Prop where
  fn : b.fn = f
  kind : b.kind = .normal
  tm : TMR φ tm a.tmps
  ds : A2 (MarkR φ) ds a.defers
  ro : match ro with
    | none => b.roundOf = none
    | some l => ∃ blk y, φ.blk l = some (blk, y) ∧ b.roundOf = some blk
  size : ∀ fn, P.funcs[f]? = some fn → fn.ntmps ≤ a.tmps.size
def Ends (P : Program) (b : Frame) (a : Act) (todo : List Item) (w : World) (v' : Value) (w2 : World) : Prop :=
  match b.roundOf with
  | none => ∃ fr', fr'.fn = b.fn ∧ fr'.leaving P w2 (.returned v') ∧ ∀ cs, Steps P (lone (b.atR a todo) cs w) (lone fr' cs w2)
  | some _ => ∀ c cs, Steps P (lone (b.atR a todo) (c :: cs) w) (lone (c.finish v') cs w2)
theorem Ends.pre {b : Frame} {a a1 : Act} {todo todo1 : List Item} {w w1 : World} {v' : Value} {w2 : World} (h : Ends P b a1 todo1 w1 v' w2) (k : ∀ cs, Steps P (lone (b.atR a todo) cs w) (lone (b.atR a1 todo1) cs w1)) : Ends P b a todo w v' w2 := by
  unfold Ends at h ⊢
  cases hb : b.roundOf with
  | none =>
    rw [hb] at h
    obtain ⟨fr', h1, h2, h3⟩ := h
    exact ⟨fr', h1, h2, fun cs => (k cs).trans (h3 cs)⟩
  | some l =>
    rw [hb] at h
    exact fun c cs => (k (c :: cs)).trans (h c cs)
def RunS (P : Program) (f : FuncId) (tm : TM) (todo : List Item) (ds : List Nat) (ro : Option Nat) (g : GM) (v : AV) (g' : GM) (N : Nat → Prop) : Prop :=
  ∀ (B : Base) (φ : Ph) (b : Frame) (a : Act) (w : World), HR B φ g w → Glob φ → Fresh φ N → FR P φ f tm ds ro b a → ∃ v' w2, Aft B φ g' N v v' w2 ∧ Ends P b a todo w v' w2
def Within (h h' : H) (N : Nat → Prop) : Prop := h.nx ≤ h'.nx ∧ ∀ m, N m → h.nx ≤ m ∧ m < h'.nx
def RunOK (P : Program) (rec : Rec R) : Prop := ∀ f tm todo ds ro h K r, rec f tm todo ds ro h K = some r → ∃ v h' N, K v h' = some r ∧ Within h h' N ∧ RunS P f tm todo ds ro h.t.get v h'.t.get N
/-- what a piece of the way shows -/
def StepS (P : Program) (f : FuncId) (tm : TM) (todo : List Item) (ds : List Nat) (ro : Option Nat) (g : GM) (tm1 : TM) (todo1 : List Item) (ds1 : List Nat) (g1 : GM) (N : Nat → Prop) : Prop :=
  ∀ (B : Base) (φ : Ph) (b : Frame) (a : Act) (w : World), HR B φ g w → Glob φ → Fresh φ N → FR P φ f tm ds ro b a → ∃ a1 w1 ψ, φ.le ψ ∧ (∀ m, ¬ N m → ψ.blk m = φ.blk m ∧ ψ.cap m = φ.cap m) ∧ HR B ψ g1 w1 ∧ FR P ψ f tm1 ds1 ro b a1 ∧
    ∀ cs, Steps P (lone (b.atR a todo) cs w) (lone (b.atR a1 todo1) cs w1)
theorem StepS.run {f : FuncId} {tm tm1 : TM} {todo todo1 : List Item} {ds ds1 : List Nat} {ro : Option Nat} {g g1 g2 : GM} {v : AV} {N M : Nat → Prop} (h : StepS P f tm todo ds ro g tm1 todo1 ds1 g1 N) (k : RunS P f tm1 todo1 ds1 ro g1 v g2 M) (hNM : ∀ m, N m → M m → False) : RunS P f tm todo ds ro g v g2 (fun m => N m ∨ M m) := by
  intro B φ b a w hr hg hf hfr
  obtain ⟨a1, w1, ψ, p1, p2, p3, p4, p5⟩ := h B φ b a w hr hg (fun m hm => hf m (.inl hm)) hfr
  obtain ⟨v', w2, ⟨χ, q1, q2, q3, q4⟩, q5⟩ := k B ψ b a1 w1 p3 (hg.mono p1) (fun m hm => by
    obtain ⟨e1, e2⟩ := p2 m fun hn => hNM m hn hm
    rw [e1, e2]; exact hf m (.inr hm)) p4
  refine ⟨v', w2, ⟨χ, p1.trans q1, fun m hm => ?_, q3, q4⟩, q5.pre p5⟩
  obtain ⟨e1, e2⟩ := p2 m fun h => hm (.inl h)
  obtain ⟨e3, e4⟩ := q2 m fun h => hm (.inr h)
  exact ⟨e3.trans e1, e4.trans e2⟩
/-- a step that turns nothing but what is left to do -/
theorem RunS.calm {f : FuncId} {tm : TM} {todo todo1 : List Item} {ds : List Nat} {ro : Option Nat} {g g2 : GM} {v : AV} {N : Nat → Prop} (k : RunS P f tm todo1 ds ro g v g2 N) (hs : ∀ (B : Base) (φ : Ph) (b : Frame) (a : Act) w cs, Glob φ → FR P φ f tm ds ro b a → step P (lone (b.atR a todo) cs w) = .next (lone (b.atR a todo1) cs w)) : RunS P f tm todo ds ro g v g2 N := by
  intro B φ b a w hr hg hf hfr
  obtain ⟨v', w2, q1, q2⟩ := k B φ b a w hr hg hf hfr
  exact ⟨v', w2, q1, q2.pre fun cs => .one (hs B φ b a w cs hg hfr)⟩
/-! ### results -/
def resSem (tmps : Array Value) (x : ResultVar) : Sem Value :=
  match x with
  | .tmp t => pure (tmps.getD t undef)
  | .cell a t => do loadVar t (← asAddr (tmps.getD a undef))
theorem results_eq (fn : Func) (tmps : Array Value) : results fn tmps = (do
    let vs ← fn.results.mapM (resSem tmps)
    pure (if h : vs.size = 1 then vs[0] else .tuple vs)) := by
  unfold results
  congr 1
theorem resK_spec (hE : EOk P E) {tm : TM} {h : H} : ∀ {l : List ResultVar} {K : List AV → Option R} {r : R}, resK E tm h l K = some r → ∃ vs, K vs = some r ∧ ∀ B φ w (tmps : Array Value), HR B φ h.t.get w → TMR φ tm tmps → ∃ us, (l.mapM (resSem tmps)).run P w = .ok us w ∧ A2 (AR φ) vs us
  | [], K, r, h1 => ⟨[], h1, fun B φ w tmps hw ht => ⟨[], by simp, .nil⟩⟩
  | .tmp t :: l, K, r, h1 => by
    obtain ⟨x, hx, h1⟩ := ob_some (show ob (TM.get tm t) _ = some r from h1)
    obtain ⟨vs, h2, h3⟩ := resK_spec hE (l := l) (K := fun l => K (x :: l)) h1
    refine ⟨_, h2, fun B φ w tmps hw ht => ?_⟩
    obtain ⟨us, q1, q2⟩ := h3 B φ w tmps hw ht
    refine ⟨tmps.getD t undef :: us, ?_, .cons (ht t x hx) q2⟩
    rw [List.mapM_cons, Sem.run_bind]
    simp only [resSem, Sem.run_pure, Result.andThen_ok, Sem.run_bind, q1]
  | .cell a t :: l, K, r, h1 => by
    obtain ⟨x, hx, h1⟩ := ob_some (show ob (TM.get tm a) _ = some r from h1)
    obtain ⟨c, rfl, h1⟩ := withC_spec (x := x) (K := fun a => withPtr a fun n off => ty E t fun t => hload h t n off fun v => resK E tm h l fun l => K (v :: l)) h1
    obtain ⟨n, off, rfl, h2⟩ := withPtr_spec h1
    obtain ⟨ti, ht, h2⟩ := ob_some h2
    obtain ⟨lc, h2, hl⟩ := hrd_spec h2
    obtain ⟨hle, h2⟩ := partK_spec h2
    obtain ⟨v, h2, hv⟩ := shapeK_spec h2
    obtain ⟨vs, h3, h4⟩ := resK_spec hE (l := l) (K := fun l => K (v :: l)) h2
    refine ⟨_, h3, fun B φ w tmps hw htm => ?_⟩
    obtain ⟨us, q1, q2⟩ := h4 B φ w tmps hw htm
    obtain ⟨b, f, S, q, e⟩ := htm a _ hx
    obtain ⟨b', f', cc, T, fz, q', hb, hc⟩ := rd_spec hl hw
    rw [q] at q'
    obtain ⟨rfl, rfl, rfl⟩ : b = b' ∧ f = f' ∧ S = cc.size := by simpa using q'
    have hT := hE.ty _ _ ht
    obtain ⟨d, ud, kd⟩ := hT.und
    have hp := cov_part hc hle
    have hlen := hp.len
    obtain ⟨i, z, i1, i2, _⟩ := hT.info
    have hll : ((lc.drop off).take ti.sz).length = ti.sz := by simp; omega
    obtain ⟨y, y1, y2⟩ : ∃ y, (loadVar t ⟨b, f + off, none⟩).run P w = .ok y w ∧ AR φ v y := by
      rcases hv with ⟨ha, rfl⟩ | ⟨ha, y, hy, rfl⟩
      · exact ⟨_, run_loadVar_mid (P := P) w b (f + off) t _ d (part_cells hb _ ti.sz) ud (by rw [hT.isRow ud]; exact ha) (by rw [i1]; simp only [Option.map_some, i2]; rw [← hlen, hll]), _, rfl, hp⟩
      · rw [hy] at hp
        obtain ⟨u, hu, hr⟩ := hp.get (i := 0) (a := y) rfl
        refine ⟨u, ?_, hr⟩
        have := part_cells hb (f + off) ti.sz 0 u hu
        unfold loadVar
        rw [Sem.run_bind, hT.agg, Result.andThen_ok, ha]
        simp only [Bool.false_eq_true, if_false]
        simp only [Nat.add_zero] at this
        simp [load, Sem.run, this]
    refine ⟨y :: us, ?_, .cons y2 q2⟩
    rw [List.mapM_cons, Sem.run_bind]
    simp only [resSem, e, asAddr, Sem.run_bind, Sem.run_pure, Result.andThen_ok, y1, q1]
theorem joinK_spec {l : List AV} {K : AV → Option R} (h1 : joinK l K = some r) : ∃ v, K v = some r ∧ ∀ φ us, A2 (AR φ) l us → AR φ v (if h : us.toArray.size = 1 then us.toArray[0] else .tuple us.toArray) := by
  cases l with
  | nil => exact ⟨_, h1, fun φ us hu => by cases hu; exact ⟨[], rfl, .nil⟩⟩
  | cons v l =>
    cases l with
    | nil => exact ⟨v, h1, fun φ us hu => by cases hu with | cons hq ht => cases ht; simpa using hq⟩
    | cons v2 l =>
      have key : ∀ {l : List AV} {K : List AS → Option R} {r : R}, toSs l K = some r → ∃ ss, K ss = some r ∧ ∀ φ us, A2 (AR φ) l us → A2 (SR φ) ss us := by
        intro l
        induction l with
        | nil => intro K r h; exact ⟨[], h, fun φ us hu => by cases hu; exact .nil⟩
        | cons v l ih =>
          intro K r h
          obtain ⟨s, h2, h3⟩ := toS_spec (x := v) (K := fun v => toSs l fun l => K (v :: l)) h
          obtain ⟨ss, h4, h5⟩ := ih h2
          exact ⟨s :: ss, h4, fun φ us hu => by cases hu with | cons hq ht => exact .cons ((h3 _ _).1 hq) (h5 φ _ ht)⟩
      obtain ⟨ss, h2, h3⟩ := key (show toSs (v :: v2 :: l) (fun l => K (.tup l)) = some r from h1)
      refine ⟨_, h2, fun φ us hu => ?_⟩
      have hl := hu.len
      rw [dif_neg (by simp at hl ⊢; omega)]
      exact ⟨us, rfl, h3 φ us hu⟩
theorem takeDs_spec : ∀ {ds : List Nat} {h : H} {K : H → Option R} {r : R}, takeDs ds h K = some r → ∃ h', K h' = some r ∧ h'.nx = h.nx ∧ ∀ B φ w (df : List Deferred), HR B φ h.t.get w → A2 (MarkR φ) ds df → ∃ w', HR B φ h'.t.get w' ∧ ∀ (fr : Frame) cs, fr.mode = .returning → fr.defers = df → Steps P (lone fr cs w) (lone { fr with defers := [] } cs w')
  | [], h, K, r, h1 => ⟨h, h1, rfl, fun B φ w df hw hd => ⟨w, hw, fun fr cs hm hdf => by
    cases hd
    have : fr = { fr with defers := [] } := by cases fr; simp at hdf; simp [hdf]
    rw [← this]; exact .refl _ _⟩⟩
  | d :: ds, h, K, r, h1 => by
    obtain ⟨oo, hoo, h1⟩ := ob_some (show ob (hget h d) _ = some r from h1)
    cases oo with
    | dfr c =>
      obtain ⟨hc, h1'⟩ := bf_some (show bf c _ none = some r from h1)
      subst hc
      obtain ⟨h2, h3, h4, h5⟩ := hset_spec h1'
      obtain ⟨h', h6, h7, h8⟩ := takeDs_spec h3
      refine ⟨h', h6, by omega, fun B φ w df hw hd => ?_⟩
      cases hd with
      | cons hq ht =>
        rename_i x df
        obtain ⟨b, ⟨f, S⟩, q, rfl⟩ := hq
        obtain ⟨b', f', S', q', hb⟩ := hw.obj _ _ hoo
        rw [q] at q'
        obtain ⟨rfl, rfl, rfl⟩ : b = b' ∧ f = f' ∧ S = S' := by simpa using q'
        have hw1 : HR B φ h2.t.get (w.putObj b (.deferred none)) := by
          rw [h5]
          refine hw.upd (b := b) (x := (f, S)) (fun _ _ h => h) hoo rfl (fun l hl => by cases hl) q ?_ ?_ (fun k hk => World.putObj_heap_other hk) World.putObj_size rfl rfl rfl
          · exact ⟨b, f, S, q, World.putObj_heap_same (Array.getElem?_eq_some_iff.1 hb).1⟩
          · intro m p y hmn hgm hp hbm
            have := hw.apart d m _ p b _ y (Ne.symm hmn) hoo hgm rfl hp q hbm
            cases this
        obtain ⟨w', p1, p2⟩ := h8 B φ _ df hw1 ht
        refine ⟨w', p1, fun fr cs hm hdf => ?_⟩
        have hs := step_collected (P := P) (fr := fr) (cs := cs) (w := w) (w' := w.putObj b (.deferred none)) (d := markD b) (r := b) (ds := df) (calls := []) (by rw [hm]; simp) hdf rfl (run_takeDeferred hb)
        exact .head hs (p2 { fr with defers := [] ++ df } cs hm rfl)
    | _ => cases h1
/-- a frame that is no round's ends -/
theorem doneK_spec (hE : EOk P E) {f : FuncId} {tm : TM} {ds : List Nat} {h : H} {K : AV → H → Option R} (h1 : doneK E f tm ds h K = some r) : ∃ v h', K v h' = some r ∧ h'.nx = h.nx ∧
    ∀ B φ b a w todo, HR B φ h.t.get w → FR P φ f tm ds none b a → ∃ v' w2, HR B φ h'.t.get w2 ∧ AR φ v v' ∧ ∃ fr', fr'.fn = b.fn ∧ fr'.leaving P w2 (.returned v') ∧ ∀ cs, Steps P (lone { b.atR a todo with mode := .returning } cs w) (lone fr' cs w2) := by
  obtain ⟨fn, hfn, h1⟩ := ob_some h1
  obtain ⟨h', h2, h3, h4⟩ := takeDs_spec (P := P) h1
  obtain ⟨vs, h5, h6⟩ := resK_spec hE h2
  obtain ⟨v, h7, h8⟩ := joinK_spec h5
  refine ⟨v, h', h7, h3, fun B φ b a w todo hw hfr => ?_⟩
  obtain ⟨w2, p1, p2⟩ := h4 B φ w a.defers hw hfr.ds
  obtain ⟨us, q1, q2⟩ := h6 B φ w2 a.tmps p1 hfr.tm
  refine ⟨_, w2, p1, h8 φ us q2, { ({ b.atR a todo with mode := .returning } : Frame) with defers := [] }, rfl, ⟨rfl, rfl, hfr.kind, fn, ?_, ?_⟩, fun cs => p2 _ cs rfl rfl⟩
  · show P.funcs[b.fn]? = some fn
    rw [hfr.fn]; exact (hE.fs _ _ hfn).1
  · show (results fn a.tmps).run P w2 = _
    rw [results_eq]
    have hm : (fn.results.mapM (resSem a.tmps)).run P w2 = .ok us.toArray w2 := by
      rw [← Array.toArray_toList (xs := fn.results), List.mapM_toArray]
      simp only [Sem.run_map, q1, Result.andThen_ok]
    rw [Sem.run_bind, hm, Result.andThen_ok]
    rfl
/-! ### alike, for sure -/
theorem eqN_spec : ∀ {l m : List Nat}, eqN l m = true → l = m
  | [], [], _ => rfl
  | [], _ :: _, h => by cases h
  | _ :: _, [], h => by cases h
  | a :: l, b :: m, h => by
    have h' : bf (Nat.beq a b) (eqN l m) false = true := h
    cases hb : Nat.beq a b with
    | false => rw [hb] at h'; cases h'
    | true => rw [hb, bf_true] at h'; rw [Nat.eq_of_beq_eq_true hb, eqN_spec h']
theorem kindN_inj {k j : IntKind} (h : kindN k = kindN j) : k = j := by cases k <;> cases j <;> first | rfl | cases h
theorem codeI_inj {n m : Int} {r s : List Nat} (h : codeI n r = codeI m s) : n = m ∧ r = s := by
  rcases n with n | n <;> rcases m with m | m <;> simp only [codeI, List.cons.injEq, true_and] at h
  · exact ⟨by rw [h.1], h.2⟩
  · exact absurd h.1 (by decide)
  · exact absurd h.1 (by decide)
  · exact ⟨by rw [h.1], h.2⟩
theorem codeL_inj : ∀ {l m : List (Int × Int × Int)}, codeL l = codeL m → l = m
  | [], [], _ => rfl
  | [], ⟨a, b, c⟩ :: _, h => by rcases a with a | a <;> cases h
  | ⟨a, b, c⟩ :: _, [], h => by rcases a with a | a <;> cases h
  | t :: l, u :: m, h => by
    have h' : codeI t.1 (codeI t.2.1 (codeI t.2.2 (codeL l))) = codeI u.1 (codeI u.2.1 (codeI u.2.2 (codeL m))) := h
    obtain ⟨e1, h1⟩ := codeI_inj h'
    obtain ⟨e2, h2⟩ := codeI_inj h1
    obtain ⟨e3, h3⟩ := codeI_inj h2
    have e := codeL_inj h3
    obtain ⟨a, b, c⟩ := t
    obtain ⟨a', b', c'⟩ := u
    cases e1; cases e2; cases e3
    rw [e]
theorem eqC_spec {x y : CV} (h : eqC x y = true) : x = y := by
  have h1 : codeC x = codeC y ∧ codeC x ≠ [] := by
    unfold eqC at h
    cases hx : codeC x with
    | nil => rw [hx] at h; cases h
    | cons a l => rw [hx] at h; exact ⟨eqN_spec h, by simp⟩
  obtain ⟨e, hne⟩ := h1
  have hb : ∀ {a b : Bool}, (@Bool.rec (fun _ => Nat) 0 1 a : Nat) = @Bool.rec (fun _ => Nat) 0 1 b → a = b := by intro a b; cases a <;> cases b <;> simp
  rcases x with a | ⟨k, n | n⟩ | ⟨k, c, l⟩ | s | _ | ⟨n, o⟩ | _ | _ | ⟨n, o, l, c, z, ex⟩ | _ | n | _ | ⟨f, c⟩ | n <;> rcases y with a' | ⟨k', n' | n'⟩ | ⟨k', c', l'⟩ | s' | _ | ⟨n', o'⟩ | _ | _ | ⟨n', o', l', c', z', ex'⟩ | _ | n' | _ | ⟨f', c'⟩ | n' <;> first
    | (exfalso; exact hne rfl)
    | rfl
    | (exfalso; cases e; done)
    | skip
  · cases a <;> cases a' <;> first | rfl | cases e
  · simp only [codeC, List.cons.injEq, and_true, true_and] at e; rw [kindN_inj e.1, e.2]
  · simp only [codeC, List.cons.injEq, and_true, true_and] at e; rw [kindN_inj e.1, e.2]
  · simp only [codeC, List.cons.injEq, true_and] at e
    obtain ⟨e1, e2⟩ := codeI_inj e.2
    rw [kindN_inj e.1, e1, codeL_inj e2]
  · simp only [codeC, List.cons.injEq, true_and] at e
    have h2 := (List.map_inj_right (f := UInt8.toNat) (fun a b => UInt8.toNat_inj.1)).1 e
    have : s.data = s'.data := Array.ext' h2
    cases s; cases s'; cases this; rfl
  · simp only [codeC, List.cons.injEq, and_true, true_and] at e; rw [e.1, e.2]
  · simp only [codeC, List.cons.injEq, and_true, true_and] at e
    obtain ⟨e1, e2, e3, e4, e5, e6⟩ := e
    rw [e1, e2, e3, e4, e5, hb e6]
  · simp only [codeC, List.cons.injEq, and_true, true_and] at e; rw [e]
  · simp only [codeC, List.cons.injEq, and_true, true_and] at e; rw [e.1, e.2]
  · simp only [codeC, List.cons.injEq, and_true, true_and] at e; rw [e]
theorem eqCs_spec : ∀ {l m : List CV}, eqCs l m = true → l = m
  | [], [], _ => rfl
  | [], _ :: _, h => by cases h
  | _ :: _, [], h => by cases h
  | a :: l, b :: m, h => by
    have h' : bf (eqC a b) (eqCs l m) false = true := h
    cases hb : eqC a b with
    | false => rw [hb] at h'; cases h'
    | true => rw [hb, bf_true] at h'; rw [eqC_spec hb, eqCs_spec h']
theorem eqS_spec {x y : AS} (h : eqS x y = true) : x = y := by
  cases x <;> cases y <;> first
    | (cases h; done)
    | exact congrArg _ (eqC_spec h)
    | exact congrArg _ (eqCs_spec h)
theorem eqSs_spec : ∀ {l m : List AS}, eqSs l m = true → l = m
  | [], [], _ => rfl
  | [], _ :: _, h => by cases h
  | _ :: _, [], h => by cases h
  | a :: l, b :: m, h => by
    have h' : bf (eqS a b) (eqSs l m) false = true := h
    cases hb : eqS a b with
    | false => rw [hb] at h'; cases h'
    | true => rw [hb, bf_true] at h'; rw [eqS_spec hb, eqSs_spec h']
theorem eqV_spec {x y : AV} (h : eqV x y = true) : x = y := by
  cases x <;> cases y <;> first
    | (cases h; done)
    | exact congrArg _ (eqC_spec h)
    | exact congrArg _ (eqCs_spec h)
    | exact congrArg _ (eqSs_spec h)
end Go.Ev
