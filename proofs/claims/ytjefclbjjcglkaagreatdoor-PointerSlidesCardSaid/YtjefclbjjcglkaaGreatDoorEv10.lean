/- The evaluator: all operations; calls. -/
import Derived.Test.YtjefclbjjcglkaaGreatDoorEv9
set_option linter.unusedVariables false
set_option linter.unusedSimpArgs false
namespace Go.Ev
open Go
variable {R : Type} {P : Program} {E : Env} {tm : TM} {h : H} {K : AV → H → Option R} {r : R} {o : Oper}
def CallOK (P : Program) (call : Caller R) : Prop := ∀ a h K r, call a h K = some r → ∃ v h' N, K v h' = some r ∧ h.nx ≤ h'.nx ∧ (∀ m, N m → h.nx ≤ m ∧ m < h'.nx) ∧ AskS P a h.t.get v h'.t.get N
theorem ofSs_spec : ∀ {l : List AS} {K : List AV → Option R} {r : R}, (@List.rec AS (fun _ => (List AV → Option R) → Option R) (fun K => K []) (fun s _ ih => fun K => ofS s fun v => ih fun l => K (v :: l)) l) K = some r → ∃ l', K l' = some r ∧ ∀ φ vs, A2 (SR φ) l vs → A2 (AR φ) l' vs
  | [], K, r, h => ⟨[], h, fun φ vs hl => by cases hl; exact .nil⟩
  | s :: l, K, r, h => by
    obtain ⟨v, h1, h2⟩ := ofS_spec (x := s) (K := fun v => (@List.rec AS (fun _ => (List AV → Option R) → Option R) (fun K => K []) (fun s _ ih => fun K => ofS s fun v => ih fun l => K (v :: l)) l) fun l => K (v :: l)) h
    obtain ⟨l', h3, h4⟩ := ofSs_spec h1
    exact ⟨v :: l', h3, fun φ vs hl => by cases hl with | cons hq ht => exact .cons ((h2 _ _).1 hq) (h4 φ _ ht)⟩
theorem capsK_spec {f : FuncId} {c : Nat} {args : List AV} {K : List AV → Option R} {r : R} (h1 : capsK h c args K = some r) : ∃ l, K l = some r ∧ ∀ B φ w vs v, HR B φ h.t.get w → A2 (AR φ) args vs → CR φ (.fn f c) v → ∃ cs : Array Value, v = .func (.func f) #[] cs ∧ A2 (AR φ) l (vs ++ cs.toList) := by
  cases c with
  | zero => exact ⟨args, h1, fun B φ w vs v hw hv hc => ⟨#[], hc, by simpa using hv⟩⟩
  | succ n =>
    obtain ⟨oo, hoo, h1⟩ := ob_some (show ob (hget h n) _ = some r from h1)
    cases oo with
    | caps l =>
      obtain ⟨l', h2, h3⟩ := ofSs_spec h1
      rw [appK_eq] at h2
      refine ⟨_, h2, fun B φ w vs v hw hv hc => ?_⟩
      obtain ⟨cs, q, rfl⟩ := hc
      obtain ⟨cs', q', hl⟩ := hw.obj _ _ hoo
      rw [q] at q'
      cases q'
      exact ⟨cs, rfl, hv.app (h3 φ _ hl)⟩
    | _ => cases h1
theorem callV_s {call : Caller R} (hcall : CallOK P call) {c : Call} {f : Operand} (ho : o.op = .call c) (hc : c.callee = .value f) {args : List AV} (hargs : ∀ φ a, Glob φ → On φ tm c.args.toList a → A2 (AR φ) args (c.args.toList.map a.eval))
    (h1 : (evC tm f fun f => oCallV f args h call K) = some r) : OpAny P o tm h K r := by
  obtain ⟨fc, h1, hf⟩ := evC_spec h1
  have hsub : ∀ x, x ∈ c.args.toList ∨ x = f → x ∈ o.op.operands.toList := by
    intro x hx
    rw [ho]
    simp [Op.operands, Call.operands, hc]
    rcases hx with hx | hx
    · exact .inr (by simpa using hx)
    · exact .inl hx
  have hres : ∀ (a : Act) w fv first cap, a.eval f = .func fv first cap → (execOp a.eval o).run P w = (invoke (.fn fv cap) (first ++ c.args.map a.eval)).run P w := by
    intro a w fv first cap e
    unfold execOp
    simp only [ho, resolve, hc, e, Deferred.ofValue, Sem.run_bind, Sem.run_pure, Result.andThen_ok]
  cases fc with
  | fn ff cc =>
    obtain ⟨l, h1, hcap⟩ := capsK_spec (f := ff) (show capsK h cc args (fun l => call (.enter ff l) h K) = some r from h1)
    obtain ⟨v, h', N, h2, h3, h4, h5⟩ := hcall _ _ _ _ h1
    refine ⟨v, h', N, h2, h3, h4, fun B φ a w hw hg hn hfr => ?_⟩
    obtain ⟨cs, e, hl⟩ := hcap B φ w _ _ hw (hargs φ a hg (hn.sub fun x hx => hsub x (.inl hx))) (hf φ a hg (hn.sub fun x hx => hsub x (.inr (by simpa using hx))))
    obtain ⟨q1, v', w2, fr, q2, q3, q4, q5⟩ := h5 B φ w _ hw hg hfr hl
    have harr : (c.args.map a.eval) ++ cs = (List.map a.eval c.args.toList ++ cs.toList).toArray := by apply Array.ext'; simp
    refine ⟨.enter ff (List.map a.eval c.args.toList ++ cs.toList).toArray, w, ?_, v', w2, fr, q2, q3, q4, q5⟩
    rw [hres a w _ _ _ e]
    simp only [invoke]
    have : #[] ++ Array.map a.eval c.args ++ cs = (List.map a.eval c.args.toList ++ cs.toList).toArray := by rw [← harr]; simp
    rw [this]
    exact q1 w
  | yl n =>
    obtain ⟨v, h', N, h2, h3, h4, h5⟩ := hcall _ _ _ _ (show call (.round n args) h K = some r from h1)
    refine ⟨v, h', N, h2, h3, h4, fun B φ a w hw hg hn hfr => ?_⟩
    obtain ⟨b, fo, S, q, e⟩ := hf φ a hg (hn.sub fun x hx => hsub x (.inr (by simpa using hx)))
    obtain ⟨fn, ts, as, bd, q1, v', w2, q2, q3⟩ := h5 B φ w _ hw hg hfr (hargs φ a hg (hn.sub fun x hx => hsub x (.inl hx))) b _ q
    refine ⟨.round b fn ts as bd, w, ?_, v', w2, q2, q3⟩
    rw [hres a w _ _ _ e]
    simp only [invoke]
    have : #[] ++ Array.map a.eval c.args = (List.map a.eval c.args.toList).toArray := by apply Array.ext'; simp
    rw [this]
    exact q1
  | _ => cases h1
theorem OpAny.ofP {v : AV} (h1 : K v h = some r) (h2 : OpP P o tm v) : OpAny P o tm h K r := ⟨v, h, No, h1, Nat.le_refl _, fun _ hm => hm.elim, h2.s _⟩
theorem OpAny.ofR {v : AV} (h1 : K v h = some r) (h2 : OpR P o tm h.t.get v) : OpAny P o tm h K r := ⟨v, h, No, h1, Nat.le_refl _, fun _ hm => hm.elim, h2.s⟩
theorem OpAny.ofA {v : AV} {h' : H} {ob : AO} (h1 : K v h' = some r) (h2 : h'.nx = h.nx + 1) (h3 : h'.t.get = GM.set h.t.get h.nx (some ob)) (h4 : OpA P o tm v h.nx ob) : OpAny P o tm h K r :=
  ⟨v, h', (· = h.nx), h1, by omega, fun m hm => by cases hm; omega, by rw [h3]; exact h4.2 _⟩
noncomputable def calleeKind (c : Callee) : Nat := (@Callee.rec (fun _ => Nat) (fun _ => 3) (fun _ _ => 3) (fun b => (@Builtin.rec (fun _ => Nat) (3) (3) (3) (3) (3) (3) (3) (3) (1) (3) (0) (0) (3) (3) (3) (3) (3) (3) (3) (3) (3) (3) (3) (3) (3) (3)) b)) c
theorem opKind_call (c : Call) : opKind (.call c) = calleeKind c.callee := rfl
/-- the operations that look at temporaries alone, those that read, those that lay a row: what they show -/
theorem kind0_s (hE : EOk P E) {call : Caller R} (hk : opKind o.op = 0) (h1 : opK o.op E tm h call K = some r) : ∃ v, K v h = some r ∧ OpP P o tm v := by
  cases ho : o.op <;> rw [ho] at hk h1 <;> first
    | (cases hk; done)
    | exact move_s (.inl ho) h1
    | exact move_s (.inr ho) h1
    | exact pick_s ho h1
    | exact build_s hE ho h1
    | exact bin_s hE ho h1
    | exact un_s ho h1
    | exact convert_s hE ho h1
    | exact extract_s ho h1
    | exact fieldAddr_s hE ho h1
    | exact field_s hE ho h1
    | exact index_s hE ho h1
    | exact indexAddr_s hE ho h1
    | exact nil_s ho h1
    | exact slice_s hE ho h1
    | skip
  rename_i c
  obtain ⟨args, h2, hargs⟩ := evs_spec (l := c.args.toList) (show evs tm c.args.toList _ = some r from h1)
  rw [opKind_call] at hk
  cases hc : c.callee with
  | builtin b =>
    rw [hc] at hk h2
    cases b <;> first
      | (cases hk; done)
      | exact max_s ho hc hargs (.inl ⟨rfl, h2⟩)
      | exact max_s ho hc hargs (.inr ⟨rfl, h2⟩)
  | value f => rw [hc] at hk; cases hk
  | invoke _ _ => rw [hc] at hk; cases hk
theorem kind1_s (hE : EOk P E) {call : Caller R} (hk : opKind o.op = 1) (h1 : opK o.op E tm h call K = some r) : ∃ v, K v h = some r ∧ OpR P o tm h.t.get v := by
  cases ho : o.op <;> rw [ho] at hk h1 <;> first
    | (cases hk; done)
    | exact load_s hE ho h1
    | exact lookup_s hE ho h1
    | skip
  rename_i c
  obtain ⟨args, h2, hargs⟩ := evs_spec (l := c.args.toList) (show evs tm c.args.toList _ = some r from h1)
  rw [opKind_call] at hk
  cases hc : c.callee with
  | builtin b =>
    rw [hc] at hk h2
    cases b <;> first
      | (cases hk; done)
      | exact len_s hE ho hc hargs h2
  | value f => rw [hc] at hk; cases hk
  | invoke _ _ => rw [hc] at hk; cases hk
theorem kind2_s (hE : EOk P E) {call : Caller R} (hk : opKind o.op = 2) (h1 : opK o.op E tm h call K = some r) : ∃ v h' ob, K v h' = some r ∧ h'.nx = h.nx + 1 ∧ h'.t.get = GM.set h.t.get h.nx (some ob) ∧ OpA P o tm v h.nx ob := by
  cases ho : o.op <;> rw [ho] at hk h1 <;> first
    | (cases hk; done)
    | exact alloc_s hE ho h1
    | exact box_s ho h1
    | exact buildSlice_s hE ho h1
    | exact makeMap_s ho h1
    | (cases h1; done)
    | skip
  rename_i c
  rw [opKind_call] at hk
  cases hc : c.callee with
  | builtin b => rw [hc] at hk; cases b <;> cases hk
  | value f => rw [hc] at hk; cases hk
  | invoke _ _ => rw [hc] at hk; cases hk
theorem opK_s (hE : EOk P E) {call : Caller R} (hcall : CallOK P call) (h1 : opK o.op E tm h call K = some r) : OpAny P o tm h K r := by
  by_cases k0 : opKind o.op = 0
  · obtain ⟨v, q1, q2⟩ := kind0_s hE k0 h1; exact .ofP q1 q2
  by_cases k1 : opKind o.op = 1
  · obtain ⟨v, q1, q2⟩ := kind1_s hE k1 h1; exact .ofR q1 q2
  by_cases k2 : opKind o.op = 2
  · obtain ⟨v, h', ob, q1, q2, q3, q4⟩ := kind2_s hE k2 h1; exact .ofA q1 q2 q3 q4
  cases ho : o.op <;> rw [ho] at h1 k0 k1 k2 <;> first
    | (exact absurd rfl k0)
    | (exact absurd rfl k1)
    | (exact absurd rfl k2)
    | (cases h1; done)
    | (obtain ⟨v, h', N, q1, q2, q3, q4⟩ := func_s ho h1; exact ⟨v, h', N, q1, q2, q3, q4⟩)
    | (obtain ⟨v, h', q1, q2, q3⟩ := store_s hE ho h1; exact ⟨v, h', No, q1, by omega, fun _ hm => hm.elim, q3⟩)
    | exact update_s hE (.inl ho) h1
    | exact update_s hE (.inr ho) h1
    | exact entry_s hE ho h1
    | exact entryStore_s ho h1
    | skip
  rename_i c
  obtain ⟨args, h2, hargs⟩ := evs_spec (l := c.args.toList) (show evs tm c.args.toList _ = some r from h1)
  rw [opKind_call] at k0 k1
  cases hc : c.callee with
  | builtin b =>
    rw [hc] at h2 k0 k1
    cases b <;> first
      | (exact absurd rfl k0)
      | (exact absurd rfl k1)
      | (cases h2; done)
      | exact append_s hE ho hc hargs h2
      | exact copy_s hE ho hc hargs h2
      | exact clear_s hE ho hc hargs h2
  | value f => rw [hc] at h2; exact callV_s hcall ho hc hargs h2
  | invoke _ _ => rw [hc] at h2; cases h2
end Go.Ev
