/- The evaluator: regions in the text's order. -/
import Derived.Test.YtjefclbjjcglkaaGreatDoorEv10
set_option linter.unusedVariables false
set_option linter.unusedSimpArgs false
namespace Go.Ev
open Go
variable {R : Type} {P : Program} {E : Env} {r : R}
theorem TM.get_cons (d : Nat) (v : AV) (tm : TM) (t : Nat) : TM.get (.cons d v tm) t = if t = d then some v else TM.get tm t := by
  show bf (Nat.beq d t) (some v) (TM.get tm t) = _
  by_cases e : t = d
  · subst e; rw [Nat.beq_refl, if_pos rfl]; rfl
  · rw [if_neg e, show Nat.beq d t = false from by rw [Bool.eq_false_iff]; intro hc; exact e (Nat.eq_of_beq_eq_true hc).symm]; rfl
theorem getD_set (ts : Array Value) (d t : Nat) (y : Value) (hd : d < ts.size) : (ts.setIfInBounds d y).getD t undef = if t = d then y else ts.getD t undef := by
  by_cases e : t = d
  · subst e; simp [hd, Array.getD_eq_getD_getElem?]
  · rw [if_neg e]
    simp [Array.getD_eq_getD_getElem?, Array.getElem?_setIfInBounds_ne (Ne.symm e)]
theorem TMR.put {φ : Ph} {tm : TM} {ts : Array Value} (h : TMR φ tm ts) {d : Nat} (hd : d < ts.size) {v : AV} {y : Value} (hv : AR φ v y) : TMR φ (.cons d v tm) (ts.setIfInBounds d y) := by
  intro t x hx
  rw [TM.get_cons] at hx
  rw [getD_set ts d t y hd]
  by_cases e : t = d
  · rw [if_pos e] at hx ⊢; cases hx; exact hv
  · rw [if_neg e] at hx ⊢; exact h t x hx
def putTM (tm : TM) (d : Option Tmp) (v : AV) : TM := match d with
  | none => tm
  | some d => .cons d v tm
theorem setT_eq (tm : TM) (d : Option Tmp) (v : AV) (K : TM → Option R) : setT tm d v K = K (putTM tm d v) := by cases d <;> rfl
theorem TMR.act {φ : Ph} {tm : TM} {a : Act} (h : TMR φ tm a.tmps) {d : Option Tmp} (hd : ∀ t, d = some t → t < a.tmps.size) {v : AV} {y : Value} (hv : AR φ v y) : TMR φ (putTM tm d v) (a.put d y).tmps := by
  cases d with
  | none => exact h
  | some d => exact h.put (hd d rfl) hv
theorem act_size (a : Act) (d : Option Tmp) (y : Value) : (a.put d y).tmps.size = a.tmps.size ∧ (a.put d y).defers = a.defers := by cases d <;> simp [Act.put]
theorem wantK_spec {ops : Array Oper} {tm : TM} {o : Oper} {K : Bool → Option R} (h1 : wantK ops.toList tm o.guard K = some r) : ∃ w, K w = some r ∧ ∀ φ ts, (∀ j q d x, o.guard = some (j, q) → (∃ oj, ops[j]? = some oj ∧ oj.dst = some d) → tm.get d = some x → AR φ x (ts.getD d undef)) → Region.wanted o (yielded ops ts) = w := by
  cases hg : o.guard with
  | none => rw [hg] at h1; exact ⟨true, h1, fun φ ts _ => by simp [Region.wanted, hg]⟩
  | some p =>
    obtain ⟨j, want⟩ := p
    rw [hg] at h1
    obtain ⟨oj, hoj, h1⟩ := ob_some h1
    obtain ⟨d, hd, h1⟩ := ob_some h1
    obtain ⟨x, hx, h1⟩ := ob_some h1
    rw [getL_eq, Array.getElem?_toList] at hoj
    have hoj : ops[j]? = some oj := hoj
    have hy : ∀ ts : Array Value, yielded ops ts j = match ts[d]? with | some (.bool b) => some b | _ => none := by
      intro ts
      unfold yielded
      rw [hoj]
      simp only [Option.bind_some, hd]
      generalize ts[d]? = z
      cases z with
      | none => rfl
      | some v => cases v <;> rfl
    cases x with
    | u =>
      refine ⟨false, h1, fun φ ts hr => ?_⟩
      have := hr j want d .u rfl ⟨oj, hoj, hd⟩ hx
      simp only [AR] at this
      simp only [Region.wanted, hg, hy]
      rw [Array.getD_eq_getD_getElem?] at this
      cases hq : ts[d]? with
      | none => rfl
      | some v => rw [hq] at this; simp only [Option.getD_some] at this; subst this; rfl
    | c x =>
      obtain ⟨c, rfl, h2⟩ := withB_spec (x := x) (K := fun c => fB (@Bool.rec (fun _ => Bool) (not want) want c) K) h1
      rw [fB_eq] at h2
      refine ⟨_, h2, fun φ ts hr => ?_⟩
      have := hr j want d _ rfl ⟨oj, hoj, hd⟩ hx
      simp only [AR, CR] at this
      simp only [Region.wanted, hg, hy]
      rw [Array.getD_eq_getD_getElem?] at this
      cases hq : ts[d]? with
      | none => rw [hq] at this; simp [undef] at this
      | some v => rw [hq] at this; simp only [Option.getD_some] at this; subst this; cases c <;> cases want <;> rfl
    | _ => cases h1
/-- one operation of a region, run in a frame -/
def OneS (P : Program) (ops : Array Oper) (i : Nat) (tm : TM) (g : GM) (tm' : TM) (g' : GM) (N : Nat → Prop) : Prop :=
  ∀ (B : Base) (φ : Ph) (b : Frame) (a : Act) (w : World), HR B φ g w → Glob φ → Fresh φ N → TMR φ tm a.tmps → (∀ o d, ops[i]? = some o → o.dst = some d → d < a.tmps.size) → b.kind = .normal →
    ∃ a' w' ψ, φ.le ψ ∧ (∀ m, ¬ N m → ψ.blk m = φ.blk m ∧ ψ.cap m = φ.cap m) ∧ HR B ψ g' w' ∧ TMR ψ tm' a'.tmps ∧ a'.defers = a.defers ∧ a'.tmps.size = a.tmps.size ∧
      ∀ rest k cs, Steps P (lone (b.atR a (.inRegion ops (i :: rest) :: k)) cs w) (lone (b.atR a' (.inRegion ops rest :: k)) cs w')
theorem op_steps {ops : Array Oper} {i : Nat} {o : Oper} (hi : ops[i]? = some o) {b : Frame} {a : Act} {w : World} (hw : Region.wanted o (yielded ops a.tmps) = true) (hnd : ∀ c, o.op ≠ .defer c) (hk : b.kind = .normal) {y : Next} {w1 : World} (hrun : (execOp a.eval o).run P w = .ok y w1)
    {B : Base} {φ : Ph} {g' : GM} {N : Nat → Prop} {v : AV} (hN : NS P B φ g' N v y w1) :
    ∃ v' w2, Aft B φ g' N v v' w2 ∧ ∀ rest k cs, Steps P (lone (b.atR a (.inRegion ops (i :: rest) :: k)) cs w) (lone (b.atR (a.put o.dst v') (.inRegion ops rest :: k)) cs w2) := by
  have hg : ∀ rest k cs, stepG P true { frame := b.atR a (.inRegion ops (i :: rest) :: k), callers := cs, status := .running, dying := none } w = stepG.apply P true (b.atR a (.inRegion ops (i :: rest) :: k)) cs none (execOp a.eval o) w := by
    intro rest k cs
    rw [stepGR_op hi hw, Oper.semAt_eq _ _ _ hnd]
  have hfin : ∀ rest k v, (b.atR a (.inRegion ops (i :: rest) :: k)).finish v = b.atR (a.put o.dst v) (.inRegion ops rest :: k) := by
    intro rest k v; rw [Frame.finish_atR, hi]; rfl
  cases y with
  | value v' =>
    refine ⟨v', w1, hN, fun rest k cs => .one (step_lone_go ?_)⟩
    rw [hg, ← hfin]; simp [stepG.apply, hrun]
  | skip =>
    refine ⟨undef, w1, hN, fun rest k cs => .one (step_lone_go ?_)⟩
    rw [hg, ← hfin]; simp [stepG.apply, hrun]
  | enter f args =>
    obtain ⟨v', w2, fr, h1, h2, h3, h4⟩ := hN
    refine ⟨v', w2, h1, fun rest k cs => ?_⟩
    have henter : step P (lone (b.atR a (.inRegion ops (i :: rest) :: k)) cs w) = .next (lone (Frame.enter P f args .normal) (b.atR a (.inRegion ops (i :: rest) :: k) :: cs) w1) :=
      step_lone_go (by rw [hg]; simp [stepG.apply, hrun, Frame.atR])
    refine .head henter ((h4 _).trans (.one ?_))
    rw [← hfin]; exact step_leave_returned h3
  | round l f ts as bd =>
    obtain ⟨v', w2, h1, h4⟩ := hN
    refine ⟨v', w2, h1, fun rest k cs => ?_⟩
    have henter : step P (lone (b.atR a (.inRegion ops (i :: rest) :: k)) cs w) = .next (lone (Frame.round l f ts as bd .normal) (b.atR a (.inRegion ops (i :: rest) :: k) :: cs) w1) :=
      step_lone_go (by rw [hg]; simp [stepG.apply, hrun, Frame.atR])
    rw [← hfin]
    exact .head henter (h4 _ _)
  | _ => exact hN.elim
/-- an operation that is carried out, or passed by -/
theorem oneS_of {ops : Array Oper} {i : Nat} {o : Oper} (hi : ops[i]? = some o) {tm : TM} {g g' : GM} {v : AV} {N : Nat → Prop} (hnd : ∀ c, o.op ≠ .defer c) (h : OpS P o tm g v g' N) (hw : ∀ φ ts, TMR φ tm ts → Region.wanted o (yielded ops ts) = true) : OneS P ops i tm g (putTM tm o.dst v) g' N := by
  intro B φ b a w hr hg hf ht hd hk
  obtain ⟨y, w1, h1, h2⟩ := h B φ a w hr hg (ht.on _) hf
  obtain ⟨v', w2, ⟨ψ, q1, q2, q3, q4⟩, h3⟩ := op_steps hi (hw φ _ ht) hnd hk h1 h2
  exact ⟨_, w2, ψ, q1, q2, q3, (ht.mono q1).act (fun t e => hd o t hi e) q4, (act_size _ _ _).2, (act_size _ _ _).1, h3⟩
theorem oneS_skip {ops : Array Oper} {i : Nat} {o : Oper} (hi : ops[i]? = some o) {tm : TM} {g : GM} (hw : ∀ φ ts, TMR φ tm ts → Region.wanted o (yielded ops ts) = false) : OneS P ops i tm g (putTM tm o.dst .u) g No := by
  intro B φ b a w hr hg hf ht hd hk
  refine ⟨_, w, φ, .refl φ, fun _ _ => ⟨rfl, rfl⟩, hr, ht.act (fun t e => hd o t hi e) (v := .u) (y := undef) rfl, (act_size _ _ _).2, (act_size _ _ _).1, fun rest k cs => ?_⟩
  have := stepR_op_skip (P := P) (b := b) (a := a) (k := k) (cs := cs) (w := w) (ops := ops) (i := i) (rest := rest) (by rw [hi]; simp [hw φ _ ht])
  rw [hi] at this
  exact .one this
/-! ### runes of no text -/
theorem runes_run {e : TypeId} {s : ByteArray} (hs : s.size = 0) (w : World) : ∃ nc, (Conv.stringToRunes e s).run P w = .ok (.slice (some ⟨w.heap.size, 0, none⟩) 0 nc) (w.drew.alloc (.cells (Array.replicate nc (.int .i32 0)) e)) := by
  have h0 : Conv.runesFrom s s.size 0 #[] = #[] := by rw [hs]; rfl
  unfold Conv.stringToRunes
  rw [h0]
  refine ⟨grownCap w 0 0 e, ?_⟩
  simp [Question.forced, newRow, grownCap]
theorem ofRunes_run {a : Option Addr} {c : Nat} (w : World) : (Conv.runesToString (.slice a 0 c)).run P w = .ok (.string .empty) w := by
  cases a with
  | none => rfl
  | some a => simp [Conv.runesToString, loadCells, loadCellsFrom]
theorem rune_spec (hE : EOk P E) {e : TypeId} {te : TI} (h : T.get E.ty e = some te) (hr : isRune te.d = true) : P.underlying e = some (.int .i32) := by
  obtain ⟨d, h1, h2⟩ := (hE.ty _ _ h).und
  cases hq : te.d with
  | int k =>
    rw [hq] at hr h2
    have : kindN k = 2 := Nat.eq_of_beq_eq_true hr
    cases k <;> first | (cases this; done) | skip
    rw [h1]; exact congrArg some h2
  | _ => rw [hq] at hr; cases hr
section
variable {o : Oper} {tm : TM} {h : H} {K : AV → H → Option R}
theorem toRunes_s (hE : EOk P E) {s d e : TypeId} {x : Operand} (ho : o.op = .convert s d x) {ts td : TI} (hs : T.get E.ty s = some ts) (hd : T.get E.ty d = some td) (hq : td.d = .slice e) (h1 : evC tm x (fun c => oToRunes E e c h K) = some r) : OpAny P o tm h K r := by
  obtain ⟨c, h2, h3⟩ := evC_spec (K := fun c => oToRunes E e c h K) h1
  obtain ⟨te, hte, h2⟩ := ob_some (show ob (T.get E.ty e) _ = some r from h2)
  obtain ⟨hr, h2⟩ := bf_some h2
  obtain ⟨b, rfl, h2⟩ := withS_spec h2
  obtain ⟨hb, h2⟩ := bf_some h2
  obtain ⟨h', h4, h5, h6⟩ := hnew_spec h2
  obtain ⟨ds, us, _⟩ := (hE.ty _ _ hs).und
  obtain ⟨dd, ud, kd⟩ := (hE.ty _ _ hd).und
  rw [hq] at kd
  cases kd
  have ue := rune_spec hE hte hr
  refine ⟨_, h', (· = h.nx), h4, by omega, fun k hk => by cases hk; omega, fun B φ a w hw hg hn hf => ?_⟩
  have e1 : a.eval x = .string b := h3 φ a hg (hn.sub (by simp [ho, Op.operands]))
  obtain ⟨nc, hnc⟩ := runes_run (P := P) (e := e) (s := b) (Nat.eq_of_beq_eq_true hb) w
  have hc : (convert s d (.string b)).run P w = .ok (.slice (some ⟨w.heap.size, 0, none⟩) 0 nc) (w.drew.alloc (.cells (Array.replicate nc (.int .i32 0)) e)) := by
    unfold convert
    rw [Sem.run_bind, run_underlying us, Result.andThen_ok, Sem.run_bind, run_underlying ud, Result.andThen_ok]
    have : ∀ (m : Sem Value), m = Conv.stringToRunes e b → m.run P w = .ok (.slice (some ⟨w.heap.size, 0, none⟩) 0 nc) (w.drew.alloc (.cells (Array.replicate nc (.int .i32 0)) e)) := fun m hm => by rw [hm]; exact hnc
    show ((underlying e >>= fun u => _) : Sem Value).run P w = _
    rw [Sem.run_bind, run_underlying ue, Result.andThen_ok]
    exact hnc
  refine ⟨.value (.slice (some ⟨w.heap.size, 0, none⟩) 0 nc), w.drew.alloc (.cells (Array.replicate nc (.int .i32 0)) e), ?_, ?_⟩
  · unfold execOp
    simp only [ho, e1]
    exact run_v hc
  · rw [h6]
    refine ⟨φ.put h.nx (w.heap.size, 0, nc), Ph.le_put (hf _ rfl).1, fun m hm => ⟨by show (if m = h.nx then _ else _) = _; rw [if_neg hm], rfl⟩, ?_, ?_⟩
    · exact hw.alloc (hf _ rfl) (fun l hl => by cases hl) (.inr rfl) ⟨w.heap.size, 0, Array.replicate nc (.int .i32 0), e, by simp [Ph.put], by show (w.heap.push _)[_]? = _; simp, fun i x hx => by simp at hx, by simp⟩
    · exact ⟨w.heap.size, 0, nc, nc, by simp [Ph.put], rfl, Nat.zero_le _, fun h => (by cases h), by omega⟩
theorem isEmp_spec {c : CV} (h : isEmp c = true) {φ : Ph} {v : Value} (hv : CR φ c v) : ∃ a n, v = .slice a 0 n := by
  cases c with
  | nils => exact ⟨none, 0, hv⟩
  | emp => exact hv
  | sl n o l c z e =>
    obtain rfl : l = 0 := Nat.eq_of_beq_eq_true h
    obtain ⟨b, f, S, c', _, e, _⟩ := hv
    exact ⟨_, _, e⟩
  | _ => cases h
theorem ofRunes_s (hE : EOk P E) {s d e : TypeId} {x : Operand} (ho : o.op = .convert s d x) {ts td : TI} (hs : T.get E.ty s = some ts) (hd : T.get E.ty d = some td) (hqs : ts.d = .slice e) (hqd : td.d = .str) (h1 : evC tm x (fun c => oOfRunes E e c h K) = some r) : OpAny P o tm h K r := by
  obtain ⟨c, h2, h3⟩ := evC_spec (K := fun c => oOfRunes E e c h K) h1
  obtain ⟨te, hte, h2⟩ := ob_some (show ob (T.get E.ty e) _ = some r from h2)
  obtain ⟨hr, h2⟩ := bf_some h2
  obtain ⟨hb, h2⟩ := bf_some h2
  obtain ⟨ds, us, ks⟩ := (hE.ty _ _ hs).und
  obtain ⟨dd, ud, kd⟩ := (hE.ty _ _ hd).und
  rw [hqs] at ks
  rw [hqd] at kd
  cases ks
  cases kd
  have ue := rune_spec hE hte hr
  refine .ofP h2 fun φ a w hg hn => ?_
  obtain ⟨aa, n, e1⟩ := isEmp_spec hb (h3 φ a hg (hn.sub (by simp [ho, Op.operands])))
  refine ⟨.string .empty, ?_, rfl⟩
  unfold execOp
  simp only [ho, e1]
  refine run_v ?_
  unfold convert
  rw [Sem.run_bind, run_underlying us, Result.andThen_ok, Sem.run_bind, run_underlying ud, Result.andThen_ok]
  show ((underlying e >>= fun u => _) : Sem Value).run P w = _
  rw [Sem.run_bind, run_underlying ue, Result.andThen_ok]
  exact ofRunes_run w
theorem opX_s (hE : EOk P E) {call : Caller R} (hcall : CallOK P call) (h1 : opXK o.op E tm h call K = some r) : OpAny P o tm h K r := by
  have plain : opK o.op E tm h call K = some r → OpAny P o tm h K r := fun h1 => opK_s hE hcall h1
  by_cases hc : ∃ s d x, o.op = .convert s d x
  · obtain ⟨s, d, x, ho⟩ := hc
    rw [ho] at h1 plain
    obtain ⟨ts, hs, h2⟩ := ob_some (show ob (T.get E.ty s) _ = some r from h1)
    obtain ⟨td, hd, h2⟩ := ob_some (show ob (T.get E.ty d) _ = some r from h2)
    cases hq : td.d with
    | slice e => rw [hq] at h2; exact toRunes_s hE ho hs hd hq h2
    | str =>
      rw [hq] at h2
      cases hqs : ts.d with
      | slice e =>
        have h2 : (@TD.rec (fun _ => Env → TM → TypeId → TypeId → Operand → H → (AV → H → Option R) → Option R) _ _ _ _ _ _ _ _ _ _ ts.d) E tm s d x h K = some r := h2
        rw [hqs] at h2
        exact ofRunes_s hE ho hs hd hqs hq h2
      | _ =>
        have h2 : (@TD.rec (fun _ => Env → TM → TypeId → TypeId → Operand → H → (AV → H → Option R) → Option R) _ _ _ _ _ _ _ _ _ _ ts.d) E tm s d x h K = some r := h2
        rw [hqs] at h2
        exact plain h2
    | _ => rw [hq] at h2; exact plain h2
  · have : opXK o.op E tm h call K = opK o.op E tm h call K := by
      cases ho : o.op <;> first | rfl | exact absurd ⟨_, _, _, ho⟩ hc
    rw [this] at h1
    exact plain h1
end
theorem no_defer {o : Oper} {tm : TM} {h : H} {call : Caller R} {K : AV → H → Option R} (h1 : opK o.op E tm h call K = some r) : ∀ c, o.op ≠ .defer c := by
  intro c e; rw [e] at h1; cases h1
theorem no_deferX {o : Oper} {tm : TM} {h : H} {call : Caller R} {K : AV → H → Option R} (h1 : opXK o.op E tm h call K = some r) : ∀ c, o.op ≠ .defer c := by
  intro c e; rw [e] at h1; cases h1
theorem oneK_spec (hE : EOk P E) {call : Caller R} (hcall : CallOK P call) {ops : Array Oper} {i : Nat} {o : Oper} (hi : ops[i]? = some o) {tm : TM} {h : H} {K : TM → H → Option R} (h1 : oneK E call ops.toList o tm h K = some r) :
    ∃ tm' h' N, K tm' h' = some r ∧ h.nx ≤ h'.nx ∧ (∀ m, N m → h.nx ≤ m ∧ m < h'.nx) ∧ OneS P ops i tm h.t.get tm' h'.t.get N := by
  obtain ⟨w, h1, hw⟩ := wantK_spec h1
  have hw' : ∀ φ ts, TMR φ tm ts → Region.wanted o (yielded ops ts) = w := fun φ ts ht => hw φ ts fun j q d x _ _ hx => ht d x hx
  cases w with
  | true =>
    obtain ⟨v, h', N, q1, q2, q3, q4⟩ := opX_s hE hcall (K := fun v h => setT tm o.dst v fun tm => K tm h) h1
    have q1' : K (putTM tm o.dst v) h' = some r := by rw [← setT_eq tm o.dst v (fun tm => K tm h')]; exact q1
    exact ⟨_, h', N, q1', q2, q3, oneS_of hi (no_deferX h1) q4 hw'⟩
  | false =>
    rw [show (bf false _ (setT tm o.dst .u fun tm => K tm h) : Option R) = setT tm o.dst .u fun tm => K tm h from rfl, setT_eq] at h1
    exact ⟨_, h, No, h1, Nat.le_refl _, fun _ hm => hm.elim, oneS_skip hi hw'⟩
/-- a list of operations, one after the other -/
def ListS (P : Program) (ops : Array Oper) (l : List Nat) (tm : TM) (g : GM) (tm' : TM) (g' : GM) (N : Nat → Prop) : Prop :=
  ∀ (B : Base) (φ : Ph) (b : Frame) (a : Act) (w : World), HR B φ g w → Glob φ → Fresh φ N → TMR φ tm a.tmps → (∀ o d, o ∈ ops → o.dst = some d → d < a.tmps.size) → b.kind = .normal →
    ∃ a' w' ψ, φ.le ψ ∧ (∀ m, ¬ N m → ψ.blk m = φ.blk m ∧ ψ.cap m = φ.cap m) ∧ HR B ψ g' w' ∧ TMR ψ tm' a'.tmps ∧ a'.defers = a.defers ∧ a'.tmps.size = a.tmps.size ∧
      ∀ rest k cs, Steps P (lone (b.atR a (.inRegion ops (l ++ rest) :: k)) cs w) (lone (b.atR a' (.inRegion ops rest :: k)) cs w')
theorem ListS.nil {ops : Array Oper} {tm : TM} {g : GM} : ListS P ops [] tm g tm g No := fun B φ b a w hr hg hf ht hd hk => ⟨a, w, φ, .refl φ, fun _ _ => ⟨rfl, rfl⟩, hr, ht, rfl, rfl, fun rest k cs => .refl _ _⟩
theorem ListS.cons {ops : Array Oper} {i : Nat} {l : List Nat} {tm tm1 tm2 : TM} {g g1 g2 : GM} {N M : Nat → Prop} (h1 : OneS P ops i tm g tm1 g1 N) (h2 : ListS P ops l tm1 g1 tm2 g2 M) (hNM : ∀ m, N m → M m → False) : ListS P ops (i :: l) tm g tm2 g2 (fun m => N m ∨ M m) := by
  intro B φ b a w hr hg hf ht hd hk
  obtain ⟨a1, w1, ψ, p1, p2, p3, p4, p5, p6, p7⟩ := h1 B φ b a w hr hg (fun m hm => hf m (.inl hm)) ht (fun o d ho => hd o d (Array.mem_of_getElem? ho)) hk
  obtain ⟨a2, w2, χ, q1, q2, q3, q4, q5, q6, q7⟩ := h2 B ψ b a1 w1 p3 (hg.mono p1) (fun m hm => by
    obtain ⟨e1, e2⟩ := p2 m fun hn => hNM m hn hm
    rw [e1, e2]; exact hf m (.inr hm)) p4 (fun o d ho hd' => by rw [p6]; exact hd o d ho hd') hk
  refine ⟨a2, w2, χ, p1.trans q1, fun m hm => ?_, q3, q4, q5.trans p5, q6.trans p6, fun rest k cs => (p7 _ k cs).trans (q7 rest k cs)⟩
  obtain ⟨e1, e2⟩ := p2 m fun h => hm (.inl h)
  obtain ⟨e3, e4⟩ := q2 m fun h => hm (.inr h)
  exact ⟨e3.trans e1, e4.trans e2⟩
theorem regK_spec (hE : EOk P E) {call : Caller R} (hcall : CallOK P call) {ops : Array Oper} : ∀ (l : List Oper) (i : Nat) (tm : TM) (h : H) (K : TM → H → Option R), (∀ j, l[j]? = ops[i + j]?) → regK E call ops.toList l tm h K = some r →
    ∃ tm' h' N, K tm' h' = some r ∧ h.nx ≤ h'.nx ∧ (∀ m, N m → h.nx ≤ m ∧ m < h'.nx) ∧ ListS P ops (List.range' i l.length) tm h.t.get tm' h'.t.get N
  | [], i, tm, h, K, hl, h1 => ⟨tm, h, No, h1, Nat.le_refl _, fun _ hm => hm.elim, .nil⟩
  | o :: l, i, tm, h, K, hl, h1 => by
    have hi : ops[i]? = some o := by have := hl 0; simpa using this.symm
    obtain ⟨tm1, h2, N, q1, q2, q3, q4⟩ := oneK_spec hE hcall hi (K := fun tm h => regK E call ops.toList l tm h K) h1
    obtain ⟨tm2, h3, M, p1, p2, p3, p4⟩ := regK_spec hE hcall l (i + 1) tm1 h2 K (fun j => by have := hl (j + 1); simpa [Nat.add_assoc, Nat.add_comm 1 j] using this) q1
    refine ⟨tm2, h3, _, p1, by omega, fun m hm => ?_, ListS.cons q4 p4 fun m hm hm' => ?_⟩
    · rcases hm with hm | hm
      · have := q3 m hm; omega
      · have := p3 m hm; omega
    · have := q3 m hm; have := p3 m hm'; omega
/-- a region, whole -/
def RegS (P : Program) (code : Code) (ops : Array Oper) (tm : TM) (g : GM) (tm' : TM) (g' : GM) (N : Nat → Prop) : Prop :=
  ∀ (B : Base) (φ : Ph) (b : Frame) (a : Act) (w : World), HR B φ g w → Glob φ → Fresh φ N → TMR φ tm a.tmps → (∀ o d, o ∈ ops → o.dst = some d → d < a.tmps.size) → b.kind = .normal →
    ∃ a' w' ψ, φ.le ψ ∧ (∀ m, ¬ N m → ψ.blk m = φ.blk m ∧ ψ.cap m = φ.cap m) ∧ HR B ψ g' w' ∧ TMR ψ tm' a'.tmps ∧ a'.defers = a.defers ∧ a'.tmps.size = a.tmps.size ∧
      ∀ k cs, Steps P (lone (b.atR a (.code code :: k)) cs w) (lone (b.atR a' k) cs w')
theorem region_s (hE : EOk P E) {call : Caller R} (hcall : CallOK P call) {id : Nat} {ops : Array Oper} {tm : TM} {h : H} {K : TM → H → Option R} (h1 : regK E call ops.toList ops.toList tm h K = some r) :
    ∃ tm' h' N, K tm' h' = some r ∧ h.nx ≤ h'.nx ∧ (∀ m, N m → h.nx ≤ m ∧ m < h'.nx) ∧ RegS P (.region id ops false) ops tm h.t.get tm' h'.t.get N := by
  obtain ⟨tm', h', N, q1, q2, q3, q4⟩ := regK_spec hE hcall ops.toList 0 tm h K (fun j => by simp) h1
  refine ⟨tm', h', N, q1, q2, q3, fun B φ b a w hr hg hf ht hd hk => ?_⟩
  obtain ⟨a', w', ψ, p1, p2, p3, p4, p5, p6, p7⟩ := q4 B φ b a w hr hg hf ht hd hk
  refine ⟨a', w', ψ, p1, p2, p3, p4, p5, p6, fun k cs => .head stepR_region ?_⟩
  have := p7 [] k cs
  rw [List.append_nil] at this
  have e : List.range' 0 ops.toList.length = List.range ops.size := by simp [List.range_eq_range']
  rw [e] at this
  exact this.trans (.one stepR_region_end)
end Go.Ev
