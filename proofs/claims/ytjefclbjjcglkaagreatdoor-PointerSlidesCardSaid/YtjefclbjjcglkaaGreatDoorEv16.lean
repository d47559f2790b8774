/- The evaluator: chains of operations, in every order. -/
import Derived.Test.YtjefclbjjcglkaaGreatDoorEv15
set_option linter.unusedVariables false
set_option linter.unusedSimpArgs false
namespace Go.Ev
open Go
variable {R : Type} {P : Program} {E : Env} {r : R}
def It.nw (it : It) (n : Nat) : Prop := ∃ ob, it.k = .new n ob
theorem It.nw_nm {it : It} {n : Nat} (h : it.nw n) : it.k.nm n := by obtain ⟨ob, h⟩ := h; rw [h]; exact rfl
def Chain (P : Program) (ops : Array Oper) : List It → St → St → Prop
  | [], s, s' => s = s'
  | it :: l, s, s'' => (∀ q, q ∈ it :: l → ∀ n, q.nw n → s.g n = none) ∧ ∃ s', it.ok P ops s s' ∧ Chain P ops l s' s''
def Kd.turn (r q : It) (selfR : Prop) : Prop := match r.k, q.k with
  | .calm, _ => True
  | _, .calm => True
  | .read, .read => True
  | .read, .new _ _ => True
  | .new _ _, .new _ _ => True
  | .loud _ _, .new _ _ => True
  | .read, .loud N cs => selfR ∧ (r.p.1, r.o, r.v) ∈ cs
  | _, _ => False
def Fin (ops : Array Oper) (T : List (List Nat)) (k : Nat) : Prop := ∀ j, j < ops.size → j ≠ k → j ∈ T.getD k []
/-- r comes first: what is known of the pair -/
structure Bf (ops : Array Oper) (T : List (List Nat)) (r q : It) : Prop where
  wr : ((∀ d, q.o.dst = some d → d ∉ looks ops.toList r.o) ∧ ∀ d, r.o.dst = some d → q.o.dst ≠ some d) ∨ Fin ops T q.p.1
  cs : Fin ops T q.p.1 ∨ ∀ N cs, r.k = .loud N cs → ∀ c, c ∈ cs → ∀ d, q.o.dst = some d → d ∉ looks ops.toList c.2.1
  anc : q.p.1 ∉ T.getD r.p.1 []
  idx : r.p.1 ≠ q.p.1
  turn : r.p.1 ∈ T.getD q.p.1 [] ∨ ((∀ d, r.o.dst = some d → d ∉ looks ops.toList q.o) ∧ Kd.turn r q (∀ d, r.o.dst = some d → d ∉ looks ops.toList r.o))
  nm : ∀ m, r.k.nm m → q.k.nm m → False
/-- may be turned about -/
structure Tn (ops : Array Oper) (r q : It) : Prop where
  wr : ∀ d, q.o.dst = some d → d ∉ looks ops.toList r.o
  ne : ∀ d, r.o.dst = some d → q.o.dst ≠ some d
  cs : ∀ N cs, r.k = .loud N cs → ∀ c, c ∈ cs → ∀ d, q.o.dst = some d → d ∉ looks ops.toList c.2.1
  rd : ∀ d, r.o.dst = some d → d ∉ looks ops.toList q.o
  k : Kd.turn r q (∀ d, r.o.dst = some d → d ∉ looks ops.toList r.o)
  nm : ∀ m, r.k.nm m → q.k.nm m → False
theorem putF_looks {ops : Array Oper} {o : Oper} {f : TF} {d : Option Tmp} {v : AV} (h : ∀ t, d = some t → t ∉ looks ops.toList o) : ∀ t, t ∈ looks ops.toList o → putF f d v t = f t := fun t ht => putF_other fun e => h t e ht
/-- one that is not loud, turned about -/
theorem swap {ops : Array Oper} {r q : It} {s s1 s2 : St} (h1 : r.ok P ops s s1) (h2 : q.ok P ops s1 s2) (ht : Tn ops r q) (hq : ∀ N cs, q.k ≠ .loud N cs) (hs : ∀ n, q.nw n → s.g n = none ∧ s1.g n = none) :
    ∃ s3, q.ok P ops s s3 ∧ r.ok P ops s3 s2 ∧ ∀ n, s.g n = none → ¬ q.k.nm n → s3.g n = none := by
  have ag1 := putF_looks (f := s.fr) (v := r.v) ht.rd
  have ag2 : ∀ f : TF, ∀ t, t ∈ looks ops.toList r.o → putF f q.o.dst q.v t = f t := fun f => putF_looks ht.wr
  have hcm : putF (putF s.fr r.o.dst r.v) q.o.dst q.v = putF (putF s.fr q.o.dst q.v) r.o.dst r.v := putF_comm ht.ne
  unfold It.ok at h1 h2
  unfold It.ok
  have hk := ht.k
  unfold Kd.turn at hk
  cases hrk : r.k with
  | calm =>
    rw [hrk] at h1
    obtain ⟨h1, rfl⟩ := h1
    have h1' : (r.v = .u ∧ Wn ops r.o (putF s.fr q.o.dst q.v) false) ∨ Fa ops r.o (putF s.fr q.o.dst q.v) fun tm => OpP P r.o tm r.v := h1.imp (fun x => ⟨x.1, x.2.agree (ag2 _)⟩) fun x => x.agree (ag2 _)
    cases hqk : q.k with
    | calm =>
      rw [hqk] at h2
      obtain ⟨h2, rfl⟩ := h2
      exact ⟨_, ⟨h2.imp (fun x => ⟨x.1, x.2.agree fun t m => (ag1 t m).symm⟩) fun x => x.agree fun t m => (ag1 t m).symm, rfl⟩, ⟨h1', by rw [hcm]⟩, fun n hn _ => hn⟩
    | read =>
      rw [hqk] at h2
      obtain ⟨h2, rfl⟩ := h2
      exact ⟨_, ⟨h2.agree fun t m => (ag1 t m).symm, rfl⟩, ⟨h1', by rw [hcm]⟩, fun n hn _ => hn⟩
    | new n ob =>
      rw [hqk] at h2
      obtain ⟨h2, rfl⟩ := h2
      exact ⟨_, ⟨h2.agree fun t m => (ag1 t m).symm, rfl⟩, ⟨h1', by rw [hcm]⟩, fun m hm hne => by show GM.set s.g n _ m = none; rw [GM.set_ne s.g _ hne]; exact hm⟩
    | loud N cs => exact absurd hqk (hq N cs)
  | read =>
    rw [hrk] at h1
    obtain ⟨h1, rfl⟩ := h1
    have h1' := h1.agree (ag2 s.fr)
    cases hqk : q.k with
    | calm =>
      rw [hqk] at h2
      obtain ⟨h2, rfl⟩ := h2
      exact ⟨_, ⟨h2.imp (fun x => ⟨x.1, x.2.agree fun t m => (ag1 t m).symm⟩) fun x => x.agree fun t m => (ag1 t m).symm, rfl⟩, ⟨h1', by rw [hcm]⟩, fun n hn _ => hn⟩
    | read =>
      rw [hqk] at h2
      obtain ⟨h2, rfl⟩ := h2
      exact ⟨_, ⟨h2.agree fun t m => (ag1 t m).symm, rfl⟩, ⟨h1', by rw [hcm]⟩, fun n hn _ => hn⟩
    | new n ob =>
      rw [hqk] at h2
      obtain ⟨h2, rfl⟩ := h2
      have hn := (hs n ⟨ob, hqk⟩).1
      exact ⟨_, ⟨h2.agree fun t m => (ag1 t m).symm, rfl⟩, ⟨h1'.mono fun tm k => k.frame hn, by rw [hcm]⟩, fun m hm hne => by show GM.set s.g n _ m = none; rw [GM.set_ne s.g _ hne]; exact hm⟩
    | loud N cs => exact absurd hqk (hq N cs)
  | new n1 ob1 =>
    rw [hrk] at h1 hk
    obtain ⟨h1, rfl⟩ := h1
    have h1' := h1.agree (ag2 s.fr)
    cases hqk : q.k with
    | calm =>
      rw [hqk] at h2
      obtain ⟨h2, rfl⟩ := h2
      exact ⟨_, ⟨h2.imp (fun x => ⟨x.1, x.2.agree fun t m => (ag1 t m).symm⟩) fun x => x.agree fun t m => (ag1 t m).symm, rfl⟩, ⟨h1', by rw [hcm]⟩, fun n hn _ => hn⟩
    | read => rw [hqk] at hk; exact hk.elim
    | new n ob =>
      rw [hqk] at h2
      obtain ⟨h2, rfl⟩ := h2
      have hne : n1 ≠ n := fun e => ht.nm n (by rw [hrk]; exact e.symm) (by rw [hqk]; exact rfl)
      refine ⟨_, ⟨h2.agree fun t m => (ag1 t m).symm, rfl⟩, ⟨h1', ?_⟩, fun m hm hne => by show GM.set s.g n _ m = none; rw [GM.set_ne s.g _ hne]; exact hm⟩
      rw [hcm]
      congr 1
      funext m
      unfold GM.set
      by_cases e1 : m = n
      · have e2 : m ≠ n1 := fun e2 => hne (e2.symm.trans e1)
        simp only [if_pos e1, if_neg e2]
      · simp only [if_neg e1]
    | loud N cs => exact absurd hqk (hq N cs)
  | loud N1 cs1 =>
    rw [hrk] at h1 hk
    obtain ⟨g', h1, rfl, h3⟩ := h1
    have h1' := h1.agree (ag2 s.fr)
    have h3' : ∀ c, c ∈ cs1 → Fa ops c.2.1 (putF (putF s.fr q.o.dst q.v) r.o.dst r.v) fun tm => OpR P c.2.1 tm g' c.2.2 := by
      intro c hc
      rw [← hcm]
      exact (h3 c hc).agree (putF_looks (ht.cs N1 cs1 hrk c hc))
    cases hqk : q.k with
    | calm =>
      rw [hqk] at h2
      obtain ⟨h2, rfl⟩ := h2
      exact ⟨_, ⟨h2.imp (fun x => ⟨x.1, x.2.agree fun t m => (ag1 t m).symm⟩) fun x => x.agree fun t m => (ag1 t m).symm, rfl⟩, ⟨g', h1', by rw [hcm], by rw [hcm]; exact h3'⟩, fun n hn _ => hn⟩
    | read => rw [hqk] at hk; exact hk.elim
    | new n ob =>
      rw [hqk] at h2
      obtain ⟨h2, rfl⟩ := h2
      obtain ⟨hn, hn1⟩ := hs n ⟨ob, hqk⟩
      have h2c := h2
      have hN : ¬ N1 n := fun h => ht.nm n (by rw [hrk]; exact h) (by rw [hqk]; exact rfl)
      obtain ⟨-, -, tm0, -, hO⟩ := h2c
      exact ⟨_, ⟨h2.agree fun t m => (ag1 t m).symm, rfl⟩, ⟨GM.set g' n (some ob), h1'.mono fun tm k => k.frame hn hn1 hO.1.1 hO.1.2 hN, by rw [hcm], by rw [hcm]; exact fun c hc => (h3' c hc).mono fun tm k => k.frame hn1⟩, fun m hm hne => by show GM.set s.g n _ m = none; rw [GM.set_ne s.g _ hne]; exact hm⟩
    | loud N cs => exact absurd hqk (hq N cs)
theorem Chain.pull {ops : Array Oper} {q : It} {l2 : List It} {sF : St} (hq : ∀ N cs, q.k ≠ .loud N cs) : ∀ {l1 : List It} {s : St}, (∀ r, r ∈ l1 → Tn ops r q) → (∀ x, x ∈ l1 ++ l2 → ∀ m, x.k.nm m → q.k.nm m → False) → Chain P ops (l1 ++ q :: l2) s sF → Chain P ops (q :: (l1 ++ l2)) s sF
  | [], s, _, _, h => h
  | r :: l1, s, ha, hd, ⟨hf, s1, h1, h2⟩ => by
    obtain ⟨hf2, s2, h3, h4⟩ := Chain.pull hq (fun x hx => ha x (List.mem_cons_of_mem _ hx)) (fun x hx => hd x (List.mem_cons_of_mem _ hx)) h2
    have hr := ha r (List.mem_cons_self ..)
    have m1 : ∀ x, x ∈ q :: (r :: l1 ++ l2) → x ∈ r :: (l1 ++ q :: l2) := by
      intro x hx
      simp only [List.mem_cons, List.mem_append, List.cons_append] at hx ⊢
      rcases hx with hx | hx | hx | hx
      · exact .inr (.inr (.inl hx))
      · exact .inl hx
      · exact .inr (.inl hx)
      · exact .inr (.inr (.inr hx))
    obtain ⟨s3, k1, k2, k3⟩ := swap h1 h3 hr hq fun n hn => ⟨hf q (m1 q (List.mem_cons_self ..)) n hn, hf2 q (List.mem_cons_self ..) n hn⟩
    exact ⟨fun x hx n hn => hf x (m1 x hx) n hn, s3, k1, fun x hx n hn => k3 n (hf x (m1 x (List.mem_cons_of_mem _ hx)) n hn) fun hqn => hd x hx n (It.nw_nm hn) hqn, s2, k2, h4⟩
end Go.Ev
