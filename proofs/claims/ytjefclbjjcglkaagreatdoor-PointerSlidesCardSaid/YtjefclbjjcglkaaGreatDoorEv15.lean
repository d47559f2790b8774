/- The evaluator: an operation of a region as a step of an abstract chain; turning about. -/
import Derived.Test.YtjefclbjjcglkaaGreatDoorEv14
import Derived.Orders
set_option linter.unusedVariables false
set_option linter.unusedSimpArgs false
namespace Go.Ev
open Go
variable {R : Type} {P : Program} {E : Env} {r : R}
abbrev TF := Nat → Option AV
def putF (f : TF) (d : Option Tmp) (v : AV) : TF := match d with
  | none => f
  | some d => fun t => if t = d then some v else f t
theorem putTM_get (tm : TM) (d : Option Tmp) (v : AV) : (putTM tm d v).get = putF tm.get d v := by
  cases d with
  | none => rfl
  | some d => funext t; exact TM.get_cons d v tm t
def StR (φ : Ph) (f : TF) (ts : Array Value) : Prop := ∀ t x, f t = some x → AR φ x (ts.getD t undef)
theorem StR.mono {φ ψ : Ph} (h : φ.le ψ) {f : TF} {ts : Array Value} (k : StR φ f ts) : StR ψ f ts := fun t x hx => AR.mono h x _ (k t x hx)
theorem StR.act {φ : Ph} {f : TF} {a : Act} (h : StR φ f a.tmps) {d : Option Tmp} (hd : ∀ t, d = some t → t < a.tmps.size) {v : AV} {y : Value} (hv : AR φ v y) : StR φ (putF f d v) (a.put d y).tmps := by
  cases d with
  | none => exact h
  | some d =>
    intro t x hx
    show AR φ x ((a.tmps.setIfInBounds d y).getD t undef)
    rw [getD_set _ d t y (hd d rfl)]
    unfold putF at hx
    simp only at hx
    by_cases e : t = d
    · rw [if_pos e] at hx ⊢; cases hx; exact hv
    · rw [if_neg e] at hx ⊢; exact h t x hx
theorem putF_other {f : TF} {d : Option Tmp} {v : AV} {t : Nat} (h : d ≠ some t) : putF f d v t = f t := by
  cases d with
  | none => rfl
  | some d => exact if_neg fun e => h (by rw [e])
theorem putF_same {f : TF} {d : Tmp} {v : AV} : putF f (some d) v d = some v := if_pos rfl
theorem putF_comm {f : TF} {d e : Option Tmp} {v w : AV} (h : ∀ t, d = some t → e ≠ some t) : putF (putF f d v) e w = putF (putF f e w) d v := by
  cases d with
  | none => rfl
  | some d =>
    cases e with
    | none => rfl
    | some e =>
      have hne : d ≠ e := fun he => h d rfl (by rw [he])
      funext t
      unfold putF
      simp only
      by_cases e1 : t = e
      · rw [if_pos e1, if_pos e1, if_neg fun e2 => hne (e2.symm.trans e1)]
      · simp only [if_neg e1]
/-! ### the frame: what an operation does beside a row that it does not know -/
theorem HR.frame_in {B : Base} {φ : Ph} {g : GM} {n : Nat} {ob : AO} {w : World} (hg : g n = none) (hw : HR B φ (GM.set g n (some ob)) w) (hown : ob.own = true) (hsib : ob.sib = none) {b : Nat} {x : Nat × Nat} (hb : φ.blk n = some (b, x)) :
    HR ⟨w, fun k => B.F k ∨ k = b, B.Q⟩ φ g w := by
  have hs : ∀ m o, g m = some o → m ≠ n ∧ GM.set g n (some ob) m = some o := by
    intro m o hm
    have : m ≠ n := fun e => by rw [e, hg] at hm; cases hm
    exact ⟨this, by rw [GM.set_ne g _ this]; exact hm⟩
  have hn : GM.set g n (some ob) n = some ob := GM.set_same ..
  refine ⟨fun k _ => rfl, ⟨fun k hk => ?_, fun k hk => .inl (hw.fb.2 k hk)⟩, Nat.le_refl _, rfl, rfl, rfl, fun m o hm => hw.obj m o (hs m o hm).2, ?_, fun m l k y hm hk => hw.ro m l k y (hs m _ hm).2 hk, fun m k o p c y z hne hm hk ho hp hc hd => hw.apart m k o p c y z hne (hs m o hm).2 (hs k p hk).2 ho hp hc hd, hw.lt⟩
  · rcases hk with hk | rfl
    · exact Nat.lt_of_lt_of_le (hw.fb.1 k hk) hw.size
    · exact hw.lt n _ _ hb
  · intro m o k y hm ho hk hF
    rcases hF with hF | rfl
    · exact hw.own m o k y (hs m o hm).2 ho hk hF
    · have := hw.apart n m ob o k x y (Ne.symm (hs m o hm).1) hn (hs m o hm).2 hown ho hb hk
      rw [hsib] at this
      cases this
theorem HR.frame_out {B : Base} {φ ψ : Ph} {g g' : GM} {n : Nat} {ob : AO} {w w2 : World} (hw : HR B φ (GM.set g n (some ob)) w) (hown : ob.own = true) (hle : φ.le ψ) (hsame : ψ.blk n = φ.blk n) {b : Nat} {x : Nat × Nat} (hb : φ.blk n = some (b, x))
    (h2 : HR ⟨w, fun k => B.F k ∨ k = b, B.Q⟩ ψ g' w2) (hg' : g' n = none) : HR B ψ (GM.set g' n (some ob)) w2 := by
  have hn : GM.set g n (some ob) n = some ob := GM.set_same ..
  have hbψ : ψ.blk n = some (b, x) := hsame.trans hb
  have hkb : w2.heap[b]? = w.heap[b]? := h2.keep b (.inr rfl)
  have hnF : ¬ B.F b := hw.own n ob b x hn hown hb
  have hnc : ∀ l, ob ≠ .caps l := by rintro l rfl; cases hown
  refine ⟨fun k hk => (h2.keep k (.inl hk)).trans (hw.keep k hk), ⟨hw.fb.1, hw.fb.2⟩, Nat.le_trans hw.size h2.size, h2.os.trans hw.os, h2.out.trans hw.out, h2.tape.trans hw.tape, ?_, ?_, ?_, ?_, h2.lt⟩
  · intro m o hm
    by_cases e : m = n
    · subst e
      rw [GM.set_same] at hm
      cases hm
      exact (hw.obj m ob hn).mono hle fun k y hk => by rw [hb] at hk; cases hk; exact hkb
    · rw [GM.set_ne g' _ e] at hm; exact h2.obj m o hm
  · intro m o k y hm ho hk
    by_cases e : m = n
    · subst e; rw [hbψ] at hk; cases hk; exact hnF
    · rw [GM.set_ne g' _ e] at hm; exact fun hF => h2.own m o k y hm ho hk (.inl hF)
  · intro m l k y hm hk
    by_cases e : m = n
    · subst e; rw [GM.set_same] at hm; cases hm; cases hown
    · rw [GM.set_ne g' _ e] at hm; exact h2.ro m l k y hm hk
  · intro m k o p c y z hne hm hk ho hp hc hd
    by_cases e : m = n
    · subst e
      rw [GM.set_ne g' _ (Ne.symm hne)] at hk
      rw [hbψ] at hc; cases hc
      exact absurd (.inr rfl) (h2.own k p _ z hk hp hd)
    · by_cases e' : k = n
      · subst e'
        rw [GM.set_ne g' _ e] at hm
        rw [hbψ] at hd; cases hd
        exact absurd (.inr rfl) (h2.own m o _ y hm ho hc)
      · rw [GM.set_ne g' _ e] at hm
        rw [GM.set_ne g' _ e'] at hk
        exact h2.apart m k o p c y z hne hm hk ho hp hc hd
theorem OR.blk {φ : Ph} {o : AO} {n : Nat} {w : World} (h : OR φ o n w) (hown : o.own = true) : ∃ b x, φ.blk n = some (b, x) := by
  cases o with
  | caps l => cases hown
  | ro l => cases hown
  | cells l s => obtain ⟨b, f, c, T, q, _⟩ := h; exact ⟨_, _, q⟩
  | map l c => obtain ⟨b, f, S, es, q, _⟩ := h; exact ⟨_, _, q⟩
  | loop l => obtain ⟨b, f, S, es, q, _⟩ := h; exact ⟨_, _, q⟩
  | dfr l => obtain ⟨b, f, S, q, _⟩ := h; exact ⟨_, _, q⟩
theorem OpS.frame {o : Oper} {tm : TM} {g g' : GM} {v : AV} {N : Nat → Prop} (h : OpS P o tm g v g' N) {n : Nat} {ob : AO} (hg : g n = none) (hg' : g' n = none) (hown : ob.own = true) (hsib : ob.sib = none) (hn : ¬ N n) : OpS P o tm (GM.set g n (some ob)) v (GM.set g' n (some ob)) N := by
  intro B φ a w hw hgl hon hf
  obtain ⟨b, x, hb⟩ := (hw.obj n ob (GM.set_same ..)).blk hown
  obtain ⟨y, w1, h1, h2⟩ := h _ φ a w (hw.frame_in hg hown hsib hb) hgl hon hf
  have hA : ∀ v' w2, Aft ⟨w, fun k => B.F k ∨ k = b, B.Q⟩ φ g' N v v' w2 → Aft B φ (GM.set g' n (some ob)) N v v' w2 := by
    rintro v' w2 ⟨ψ, p1, p2, p3, p4⟩
    exact ⟨ψ, p1, p2, hw.frame_out hown p1 (p2 n hn).1 hb p3 hg', p4⟩
  refine ⟨y, w1, h1, ?_⟩
  cases y with
  | value v' => exact hA _ _ h2
  | skip => exact hA _ _ h2
  | enter f args => obtain ⟨v', w2, fr, q1, q2⟩ := h2; exact ⟨v', w2, fr, hA _ _ q1, q2⟩
  | round l f ts as bd => obtain ⟨v', w2, q1, q2⟩ := h2; exact ⟨v', w2, hA _ _ q1, q2⟩
  | _ => exact h2
theorem OpR.frame {o : Oper} {tm : TM} {g : GM} {v : AV} (h : OpR P o tm g v) {n : Nat} {ob : AO} (hg : g n = none) : OpR P o tm (GM.set g n (some ob)) v := fun B φ a w hw hgl hon => h B φ a w (hw.sub fun m q hm => by
  rw [GM.set_ne g _ fun e => by rw [e, hg] at hm; cases hm]; exact hm) hgl hon
/-! ### facts about an operation, by what it looks at -/
def Wn (ops : Array Oper) (o : Oper) (f : TF) (b : Bool) : Prop := ∀ φ ts, (∀ t x, t ∈ looks ops.toList o → f t = some x → AR φ x (ts.getD t undef)) → Region.wanted o (yielded ops ts) = b
def Fa (ops : Array Oper) (o : Oper) (f : TF) (X : TM → Prop) : Prop := (∀ c, o.op ≠ .defer c) ∧ Wn ops o f true ∧ ∃ tm : TM, (∀ t, Operand.tmp t ∈ o.op.operands.toList → tm.get t = f t) ∧ X tm
theorem looks_op {ops : Array Oper} {o : Oper} {t : Nat} (h : Operand.tmp t ∈ o.op.operands.toList) : t ∈ looks ops.toList o := by
  unfold looks
  exact List.mem_append_left _ (List.mem_filterMap.2 ⟨_, h, rfl⟩)
theorem Wn.agree {ops : Array Oper} {o : Oper} {f f' : TF} {b : Bool} (h : Wn ops o f b) (ha : ∀ t, t ∈ looks ops.toList o → f' t = f t) : Wn ops o f' b := fun φ ts hr => h φ ts fun t x ht hx => hr t x ht ((ha t ht).trans hx)
theorem Fa.agree {ops : Array Oper} {o : Oper} {f f' : TF} {X : TM → Prop} (h : Fa ops o f X) (ha : ∀ t, t ∈ looks ops.toList o → f' t = f t) : Fa ops o f' X := by
  obtain ⟨h1, h2, tm, h3, h4⟩ := h
  exact ⟨h1, h2.agree ha, tm, fun t ht => (h3 t ht).trans (ha t (looks_op ht)).symm, h4⟩
theorem Fa.mono {ops : Array Oper} {o : Oper} {f : TF} {X Y : TM → Prop} (h : Fa ops o f X) (k : ∀ tm, X tm → Y tm) : Fa ops o f Y := by
  obtain ⟨h1, h2, tm, h3, h4⟩ := h
  exact ⟨h1, h2, tm, h3, k tm h4⟩
inductive Kd where
  | calm | read | new (n : Nat) (ob : AO) | loud (N : Nat → Prop) (cs : List (Nat × Oper × AV))
structure It where
  p : Nat × List Nat
  o : Oper
  v : AV
  k : Kd
structure St where
  fr : TF
  g : GM
def Kd.nm : Kd → Nat → Prop
  | .new n _, m => m = n
  | .loud N _, m => N m
  | _, _ => False
def It.ok (P : Program) (ops : Array Oper) (it : It) (s s' : St) : Prop := match it.k with
  | .calm => ((it.v = .u ∧ Wn ops it.o s.fr false) ∨ Fa ops it.o s.fr fun tm => OpP P it.o tm it.v) ∧ s' = ⟨putF s.fr it.o.dst it.v, s.g⟩
  | .read => (Fa ops it.o s.fr fun tm => OpR P it.o tm s.g it.v) ∧ s' = ⟨putF s.fr it.o.dst it.v, s.g⟩
  | .new n ob => (Fa ops it.o s.fr fun tm => OpA P it.o tm it.v n ob) ∧ s' = ⟨putF s.fr it.o.dst it.v, GM.set s.g n (some ob)⟩
  | .loud N cs => ∃ g', (Fa ops it.o s.fr fun tm => OpS P it.o tm s.g it.v g' N) ∧ s' = ⟨putF s.fr it.o.dst it.v, g'⟩ ∧ ∀ c, c ∈ cs → Fa ops c.2.1 s'.fr fun tm => OpR P c.2.1 tm g' c.2.2
/-- every kind, at once -/
theorem It.one {ops : Array Oper} {it : It} {s s' : St} (hi : ops[it.p.1]? = some it.o) (h : it.ok P ops s s') : ∀ (B : Base) (φ : Ph) (b : Frame) (a : Act) (w : World), HR B φ s.g w → Glob φ → Fresh φ it.k.nm → StR φ s.fr a.tmps → (∀ d, it.o.dst = some d → d < a.tmps.size) → b.kind = .normal →
    ∃ a' w' ψ, φ.le ψ ∧ (∀ m, ¬ it.k.nm m → ψ.blk m = φ.blk m ∧ ψ.cap m = φ.cap m) ∧ HR B ψ s'.g w' ∧ StR ψ s'.fr a'.tmps ∧ a'.defers = a.defers ∧ a'.tmps.size = a.tmps.size ∧
      ∀ rest k cs, Steps P (lone (b.atR a (.inRegion ops (it.p.1 :: rest) :: k)) cs w) (lone (b.atR a' (.inRegion ops rest :: k)) cs w') := by
  have key : ∀ {g' : GM} {N : Nat → Prop}, (Fa ops it.o s.fr fun tm => OpS P it.o tm s.g it.v g' N) → ∀ (B : Base) (φ : Ph) (b : Frame) (a : Act) (w : World), HR B φ s.g w → Glob φ → Fresh φ N → StR φ s.fr a.tmps → (∀ d, it.o.dst = some d → d < a.tmps.size) → b.kind = .normal →
    ∃ a' w' ψ, φ.le ψ ∧ (∀ m, ¬ N m → ψ.blk m = φ.blk m ∧ ψ.cap m = φ.cap m) ∧ HR B ψ g' w' ∧ StR ψ (putF s.fr it.o.dst it.v) a'.tmps ∧ a'.defers = a.defers ∧ a'.tmps.size = a.tmps.size ∧
      ∀ rest k cs, Steps P (lone (b.atR a (.inRegion ops (it.p.1 :: rest) :: k)) cs w) (lone (b.atR a' (.inRegion ops rest :: k)) cs w') := by
    intro g' N ⟨h1, h2, tm, h3, h4⟩ B φ b a w hr hg hf ht hd hk
    obtain ⟨y, w1, q1, q2⟩ := h4 B φ a w hr hg (fun t x hm hx => ht t x ((h3 t hm).symm.trans hx)) hf
    obtain ⟨v', w2, ⟨ψ, p1, p2, p3, p4⟩, p5⟩ := op_steps hi (h2 φ _ fun t x _ hx => ht t x hx) h1 hk q1 q2
    exact ⟨_, w2, ψ, p1, p2, p3, (ht.mono p1).act hd p4, (act_size _ _ _).2, (act_size _ _ _).1, p5⟩
  intro B φ b a w hr hg hf ht hd hk
  unfold It.ok at h
  cases hkd : it.k with
  | calm =>
    rw [hkd] at h hf
    obtain ⟨h1, rfl⟩ := h
    rcases h1 with ⟨hu, hw⟩ | h1
    · refine ⟨_, w, φ, .refl φ, fun _ _ => ⟨rfl, rfl⟩, hr, ht.act (y := undef) hd (by rw [hu]; rfl), (act_size _ _ _).2, (act_size _ _ _).1, fun rest k cs => ?_⟩
      have := stepR_op_skip (P := P) (b := b) (a := a) (k := k) (cs := cs) (w := w) (ops := ops) (i := it.p.1) (rest := rest) (by rw [hi]; simp [hw φ _ fun t x _ hx => ht t x hx])
      rw [hi] at this
      exact .one this
    · exact key (h1.mono fun tm k => k.s s.g) B φ b a w hr hg hf ht hd hk
  | read =>
    rw [hkd] at h hf
    obtain ⟨h1, rfl⟩ := h
    exact key (h1.mono fun tm k => k.s) B φ b a w hr hg hf ht hd hk
  | new n ob =>
    rw [hkd] at h hf
    obtain ⟨h1, rfl⟩ := h
    exact key (h1.mono fun tm k => k.2 s.g) B φ b a w hr hg hf ht hd hk
  | loud N cs =>
    rw [hkd] at h hf
    obtain ⟨g', h1, rfl, -⟩ := h
    exact key h1 B φ b a w hr hg hf ht hd hk
end Go.Ev
