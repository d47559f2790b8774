/- The evaluator: a drawn region, whatever its order. -/
import Derived.Test.YtjefclbjjcglkaaGreatDoorEv16
set_option linter.unusedVariables false
set_option linter.unusedSimpArgs false
namespace Go.Ev
open Go
variable {R : Type} {P : Program} {E : Env} {r : R}
theorem Chain.news {ops : Array Oper} : ∀ {l : List It} {s sF : St}, Chain P ops l s sF → ∀ x, x ∈ l → ∀ n, x.nw n → s.g n = none
  | [], _, _, _, x, hx => absurd hx (by simp)
  | _ :: _, _, _, ⟨hf, _⟩, x, hx => hf x hx
def It.quiet (r : It) : Prop := r.k = .calm ∨ r.k = .read
theorem Chain.quiet {ops : Array Oper} {rest : List It} {sF : St} : ∀ {l1 : List It} {s : St}, (∀ r, r ∈ l1 → r.quiet) → Chain P ops (l1 ++ rest) s sF →
    ∃ sm, sm.g = s.g ∧ Chain P ops rest sm sF ∧ (∀ t, (∀ r, r ∈ l1 → r.o.dst ≠ some t) → sm.fr t = s.fr t) ∧
      ∀ (d : Option Tmp) (v : AV) (g' : GM) (rest' : List It), (∀ r, r ∈ l1 → ∀ t, d = some t → t ∉ looks ops.toList r.o ∧ r.o.dst ≠ some t) → l1.Pairwise (fun r x => ∀ t, x.o.dst = some t → t ∉ looks ops.toList r.o) →
        (∀ r, r ∈ l1 → r.k = .read → (∀ t, r.o.dst = some t → t ∉ looks ops.toList r.o) ∧ Fa ops r.o (putF sm.fr d v) fun tm => OpR P r.o tm g' r.v) → Chain P ops rest' ⟨putF sm.fr d v, g'⟩ sF → Chain P ops (l1 ++ rest') ⟨putF s.fr d v, g'⟩ sF
  | [], s, _, h => ⟨s, rfl, h, fun _ _ => rfl, fun d v g' rest' _ _ _ h => h⟩
  | r :: l1, s, hq, ⟨hf, s1, h1, h2⟩ => by
    obtain ⟨sm, e1, e2, e3, e4⟩ := Chain.quiet (fun x hx => hq x (List.mem_cons_of_mem _ hx)) h2
    have hs1 : s1 = ⟨putF s.fr r.o.dst r.v, s.g⟩ := by
      unfold It.ok at h1
      rcases hq r (List.mem_cons_self ..) with hk | hk <;> rw [hk] at h1 <;> exact h1.2
    refine ⟨sm, by rw [e1, hs1], e2, fun t ht => ?_, fun d v g' rest' hd hp hr hc => ?_⟩
    · rw [e3 t fun x hx => ht x (List.mem_cons_of_mem _ hx), hs1]
      exact putF_other (ht r (List.mem_cons_self ..))
    · have hc1 := e4 d v g' rest' (fun x hx => hd x (List.mem_cons_of_mem _ hx)) (List.pairwise_cons.1 hp).2 (fun x hx => hr x (List.mem_cons_of_mem _ hx)) hc
      have hdr := hd r (List.mem_cons_self ..)
      have hs1' : (⟨putF s1.fr d v, g'⟩ : St) = ⟨putF (putF s.fr d v) r.o.dst r.v, g'⟩ := by
        rw [hs1, putF_comm (d := r.o.dst) (e := d) fun t ht hd' => (hdr t hd').2 ht]
      refine ⟨fun x hx n hn => ?_, _, ?_, hc1⟩
      · rcases List.mem_cons.1 hx with rfl | hx
        · obtain ⟨ob, hob⟩ := hn
          rcases hq x (List.mem_cons_self ..) with hk | hk <;> rw [hk] at hob <;> cases hob
        · exact hc1.news x hx n hn
      · unfold It.ok
        unfold It.ok at h1
        rcases hq r (List.mem_cons_self ..) with hk | hk
        · rw [hk] at h1
          simp only [hk]
          exact ⟨h1.1.imp (fun x => ⟨x.1, x.2.agree (putF_looks fun t ht => (hdr t ht).1)⟩) fun x => x.agree (putF_looks fun t ht => (hdr t ht).1), hs1'⟩
        · simp only [hk]
          obtain ⟨k1, k2⟩ := hr r (List.mem_cons_self ..) hk
          refine ⟨k2.agree fun t ht => ?_, hs1'⟩
          by_cases hdt : d = some t
          · exact absurd ht (hdr t hdt).1
          · rw [putF_other hdt, putF_other hdt, e3 t fun x hx => ?_]
            · rw [hs1]
              exact (putF_other fun e => k1 t e ht).symm
            · exact fun e => (List.pairwise_cons.1 hp).1 x hx t e ht
/-- the next one in the drawn order, pulled ahead -/
theorem Chain.next {ops : Array Oper} {q : It} {l1 l2 : List It} {s sF : St} (ht : ∀ r, r ∈ l1 → Tn ops r q) (hp : l1.Pairwise fun r x => ∀ t, x.o.dst = some t → t ∉ looks ops.toList r.o) (hd : ∀ x, x ∈ l1 ++ l2 → ∀ m, x.k.nm m → q.k.nm m → False) (h : Chain P ops (l1 ++ q :: l2) s sF) :
    ∃ (q' : It) (s1 : St), q'.p = q.p ∧ q'.o = q.o ∧ q'.k.nm = q.k.nm ∧ q'.ok P ops s s1 ∧ Chain P ops (l1 ++ l2) s1 sF := by
  cases hk : q.k with
  | loud N cs =>
    have hquiet : ∀ r, r ∈ l1 → r.quiet := by
      intro r hr
      have := (ht r hr).k
      unfold Kd.turn at this
      rw [hk] at this
      unfold It.quiet
      cases hrk : r.k with
      | calm => exact .inl rfl
      | read => exact .inr rfl
      | new n ob => rw [hrk] at this; exact this.elim
      | loud N cs => rw [hrk] at this; exact this.elim
    obtain ⟨sm, e1, ⟨hf, s2, h2, h3⟩, e3, e4⟩ := Chain.quiet hquiet h
    unfold It.ok at h2
    rw [hk] at h2
    obtain ⟨g', k1, rfl, k3⟩ := h2
    refine ⟨{ q with k := .loud N [] }, ⟨putF s.fr q.o.dst q.v, g'⟩, rfl, rfl, rfl, ?_, e4 q.o.dst q.v g' l2 (fun r hr t htd => ⟨(ht r hr).wr t htd, fun e => (ht r hr).ne t e htd⟩) hp (fun r hr hrk => ?_) h3⟩
    · unfold It.ok
      refine ⟨g', ?_, rfl, fun c hc => absurd hc (by simp)⟩
      rw [e1] at k1
      exact k1.agree fun t htl => (e3 t fun r hr e => (ht r hr).rd t e htl).symm
    · have := (ht r hr).k
      unfold Kd.turn at this
      rw [hk, hrk] at this
      exact ⟨this.1, k3 _ this.2⟩
  | _ =>
    obtain ⟨-, s1, h1, h2⟩ := Chain.pull (by rw [hk]; rintro N cs ⟨⟩) ht hd h
    exact ⟨q, s1, rfl, rfl, by rw [hk], h1, h2⟩
/-! ### orders -/
theorem memN_iff {l : List Nat} {k : Nat} : memN l k = true ↔ k ∈ l := by
  induction l with
  | nil => constructor <;> intro h <;> cases h
  | cons a l ih =>
    show bf (Nat.beq a k) true (memN l k) = true ↔ _
    rw [List.mem_cons]
    cases hb : Nat.beq a k with
    | true => exact ⟨fun _ => .inl (Nat.eq_of_beq_eq_true hb).symm, fun _ => rfl⟩
    | false =>
      rw [bf_false, ih]
      exact ⟨.inr, fun h => h.resolve_left fun e => by rw [e, Nat.beq_refl] at hb; cases hb⟩
theorem ready_spec {ops : Array Oper} {listed : Array Bool} {j : Nat} (h : j ∈ Region.ready .any ops listed) : listed.getD j true = false ∧ ∃ o, ops[j]? = some o ∧ ∀ k, k ∈ deps o → listed.getD k false = true := by
  simp only [Region.ready, List.mem_filter, Bool.and_eq_true, Bool.not_eq_true'] at h
  refine ⟨h.2.1, ?_⟩
  cases ho : ops[j]? with
  | none => have := h.2.2; simp [ho] at this
  | some o =>
    refine ⟨o, rfl, fun k hk => ?_⟩
    have h2 := h.2.2
    simp only [ho, Option.map_some, Option.getD_some, Array.all_eq_true_iff_forall_mem] at h2
    obtain ⟨e, he, hk⟩ := List.mem_filterMap.1 hk
    have h3 := h2 e (by simpa using he)
    by_cases hb : Region.binds .any e = true
    · rw [if_pos hb] at hk
      simp only [Option.some.injEq] at hk
      subst hk
      simpa [hb] using h3
    · rw [if_neg hb] at hk; cases hk
structure TabOk (ops : Array Oper) (T : List (List Nat)) : Prop where
  up : ∀ j o, ops[j]? = some o → ∀ i, i ∈ T.getD j [] → i ∈ deps o ∨ ∃ k, k ∈ deps o ∧ i ∈ T.getD k []
  dep : ∀ j o, ops[j]? = some o → ∀ k, k ∈ deps o → k < j ∧ k ∈ T.getD j []
theorem tabOk_spec {ops : Array Oper} {T : List (List Nat)} (h : tabOk ops.toList T = true) : TabOk ops T := by
  simp only [tabOk, List.all_eq_true, List.mem_range] at h
  have key : ∀ j o, ops[j]? = some o → _ := fun j o hj => h j (by have := (Array.getElem?_eq_some_iff.1 hj).1; simpa using this)
  refine ⟨fun j o hj i hi => ?_, fun j o hj k hk => ?_⟩
  · have := key j o hj
    rw [getL_eq, Array.getElem?_toList, hj] at this
    simp only [Bool.and_eq_true, List.all_eq_true, Bool.or_eq_true, memN_iff, List.any_eq_true] at this
    exact this.1 i hi
  · have := key j o hj
    rw [getL_eq, Array.getElem?_toList, hj] at this
    simp only [Bool.and_eq_true, List.all_eq_true, Bool.or_eq_true, memN_iff, List.any_eq_true, Nat.blt_eq] at this
    exact this.2 k hk
def Closed (ops : Array Oper) (listed : Array Bool) : Prop := ∀ (j : Nat) (o : Oper), listed.getD j false = true → ops[j]? = some o → ∀ k, k ∈ deps o → listed.getD k false = true
theorem closed_anc {ops : Array Oper} {T : List (List Nat)} (hT : TabOk ops T) {listed : Array Bool} (hc : Closed ops listed) : ∀ (m j : Nat) (o : Oper), j < m → ops[j]? = some o → (∀ k, k ∈ deps o → listed.getD k false = true) → ∀ i, i ∈ T.getD j [] → listed.getD i false = true
  | 0, j, _, h, _, _, _, _ => by omega
  | m + 1, j, o, hj, ho, hd, i, hi => by
    rcases hT.up j o ho i hi with h | ⟨k, hk, hik⟩
    · exact hd i h
    · have hkj := (hT.dep j o ho k hk).1
      have hlt : j < ops.size := (Array.getElem?_eq_some_iff.1 ho).1
      cases hok : ops[k]? with
      | none => exact absurd (Array.getElem?_eq_none_iff.1 hok) (by omega)
      | some ok => exact closed_anc hT hc m k ok (by omega) hok (hc k ok (hd k hk) hok) i hik
theorem getD_set_true' {listed : Array Bool} {i : Nat} (b : Bool) (h : i < listed.size) : (listed.setIfInBounds i true).getD i b = true := by
  simp [h]
theorem getD_set_ne' {listed : Array Bool} {i j : Nat} (b : Bool) (h : i ≠ j) : (listed.setIfInBounds i true).getD j b = listed.getD j b := by
  simp [Array.getElem?_setIfInBounds_ne h]
def namesOf (l : List It) (m : Nat) : Prop := ∃ x, x ∈ l ∧ x.k.nm m
theorem exec {ops : Array Oper} {T : List (List Nat)} (hT : TabOk ops T) : ∀ (fuel : Nat) (l : List It) (listed : Array Bool) (s sF : St), l.length ≤ fuel → listed.size = ops.size → Chain P ops l s sF → l.Pairwise (Bf ops T) → (∀ x, x ∈ l → ops[x.p.1]? = some x.o) →
    (∀ i, i < ops.size → (listed.getD i false = false ↔ ∃ x, x ∈ l ∧ x.p.1 = i)) → Closed ops listed → ∀ t (B : Base) (φ : Ph) (b : Frame) (a : Act) (w : World), HR B φ s.g w → Glob φ → Fresh φ (namesOf l) → StR φ s.fr a.tmps → (∀ o d, o ∈ ops → o.dst = some d → d < a.tmps.size) → b.kind = .normal →
    ∃ a' w' ψ, φ.le ψ ∧ (∀ m, ¬ namesOf l m → ψ.blk m = φ.blk m ∧ ψ.cap m = φ.cap m) ∧ HR B ψ sF.g w' ∧ StR ψ sF.fr a'.tmps ∧ a'.defers = a.defers ∧ a'.tmps.size = a.tmps.size ∧
      ∀ k cs, Steps P (lone (b.atR a (.inRegion ops (Region.linearise.go .any ops fuel t listed []) :: k)) cs w) (lone (b.atR a' (.inRegion ops [] :: k)) cs w') := by
  intro fuel
  induction fuel with
  | zero =>
    intro l listed s sF hlen hs hc hp hi hl hcl t B φ b a w hr hg hf ht hd hk
    have hl0 : l = [] := List.length_eq_zero_iff.1 (by omega)
    subst hl0
    have hc : s = sF := hc
    subst hc
    exact ⟨a, w, φ, .refl φ, fun _ _ => ⟨rfl, rfl⟩, hr, ht, rfl, rfl, fun k cs => .refl _ _⟩
  | succ fuel ih =>
    intro l listed s sF hlen hs hc hp hi hl hcl t B φ b a w hr hg hf ht hd hk
    simp only [Region.linearise.go]
    change ∃ a' w' ψ, φ.le ψ ∧ (∀ m, ¬ namesOf l m → ψ.blk m = φ.blk m ∧ ψ.cap m = φ.cap m) ∧ HR B ψ sF.g w' ∧ StR ψ sF.fr a'.tmps ∧ a'.defers = a.defers ∧ a'.tmps.size = a.tmps.size ∧
      ∀ k cs, Steps P (lone (b.atR a (.inRegion ops (match (Region.ready .any ops listed)[t % (Region.ready .any ops listed).length]? with
      | some i => Region.linearise.go .any ops fuel (t / (Region.ready .any ops listed).length) (listed.setIfInBounds i true) [i]
      | none => [].reverse) :: k)) cs w) (lone (b.atR a' (.inRegion ops [] :: k)) cs w')
    cases hsel : (Region.ready .any ops listed)[t % (Region.ready .any ops listed).length]? with
    | none =>
      have hnil : Region.ready .any ops listed = [] := by
        cases hr : Region.ready .any ops listed with
        | nil => rfl
        | cons x xs =>
          rw [hr] at hsel
          have hlt : t % (x :: xs).length < (x :: xs).length := Nat.mod_lt _ (by simp)
          simp at hsel
          simp at hlt
          omega
      have hl0 : l = [] := by
        cases l with
        | nil => rfl
        | cons x l =>
          exfalso
          have hx := hi x (List.mem_cons_self ..)
          have hlt : x.p.1 < ops.size := (Array.getElem?_eq_some_iff.1 hx).1
          have hxf : listed.getD x.p.1 false = false := (hl x.p.1 hlt).2 ⟨x, List.mem_cons_self .., rfl⟩
          have hmem : x.p.1 ∈ Region.ready .any ops listed := by
            simp only [Region.ready, List.mem_filter, List.mem_range, hlt, true_and, Bool.and_eq_true, Bool.not_eq_true', hx, Option.map_some, Option.getD_some, Array.all_eq_true_iff_forall_mem]
            refine ⟨?_, fun e he => ?_⟩
            · have h1 : x.p.1 < listed.size := by omega
              simpa [Array.getElem?_eq_getElem h1] using hxf
            · by_cases hb : Region.binds .any e = true
              · obtain ⟨q1, q2⟩ := hT.dep _ _ hx e.on (List.mem_filterMap.2 ⟨e, by simpa using he, by rw [if_pos hb]⟩)
                simp only [hb, Bool.not_true, Bool.false_or]
                cases hle : listed.getD e.on false with
                | true => rfl
                | false =>
                  obtain ⟨q, hq, hqi⟩ := (hl e.on (by omega)).1 hle
                  rcases List.mem_cons.1 hq with rfl | hq
                  · omega
                  · exact absurd (by rw [hqi]; exact q2) ((List.pairwise_cons.1 hp).1 q hq).anc
              · simp [hb]
          rw [hnil] at hmem
          exact absurd hmem (by simp)
      subst hl0
      have hc : s = sF := hc
      subst hc
      exact ⟨a, w, φ, .refl φ, fun _ _ => ⟨rfl, rfl⟩, hr, ht, rfl, rfl, fun k cs => .refl _ _⟩
    | some i =>
      simp only []
      rw [linearise_go_acc, List.reverse_singleton, List.singleton_append]
      obtain ⟨h1, o, ho, hdo⟩ := ready_spec (List.mem_of_getElem? hsel)
      have hlt : i < ops.size := (Array.getElem?_eq_some_iff.1 ho).1
      have hlt2 : i < listed.size := by omega
      have hfi : listed.getD i false = false := by simpa [Array.getElem?_eq_getElem hlt2] using h1
      obtain ⟨q, hql, rfl⟩ := (hl i hlt).1 hfi
      obtain ⟨l1, l2, rfl⟩ := List.append_of_mem hql
      have hqo : q.o = o := by have := hi q hql; rw [ho] at this; exact (Option.some.inj this).symm
      have hanc : ∀ k, k ∈ T.getD q.p.1 [] → listed.getD k false = true := closed_anc hT hcl (q.p.1 + 1) q.p.1 o (Nat.lt_succ_self _) ho hdo
      have hp' := List.pairwise_append.1 hp
      have hp2 := List.pairwise_cons.1 hp'.2.1
      have hTn : ∀ x, x ∈ l1 → Tn ops x q := by
        intro x hx
        have hb := hp'.2.2 x hx q (List.mem_cons_self ..)
        have hxlt : x.p.1 < ops.size := (Array.getElem?_eq_some_iff.1 (hi x (List.mem_append_left _ hx))).1
        have hxf : listed.getD x.p.1 false = false := (hl x.p.1 hxlt).2 ⟨x, List.mem_append_left _ hx, rfl⟩
        have hxn : x.p.1 ∉ T.getD q.p.1 [] := fun hm => by have := hanc _ hm; rw [hxf] at this; cases this
        obtain ⟨k1, k2⟩ := hb.turn.resolve_left hxn
        have hnf : ¬ Fin ops T q.p.1 := fun hf => hxn (hf _ hxlt hb.idx)
        obtain ⟨k3, k4⟩ := hb.wr.resolve_right hnf
        exact ⟨k3, k4, hb.cs.resolve_left hnf, k1, k2, hb.nm⟩
      have hdis : ∀ x, x ∈ l1 ++ l2 → ∀ m, x.k.nm m → q.k.nm m → False := by
        intro x hx m hm hm'
        rcases List.mem_append.1 hx with hx | hx
        · exact (hp'.2.2 x hx q (List.mem_cons_self ..)).nm m hm hm'
        · exact (hp2.1 x hx).nm m hm' hm
      obtain ⟨q', s1, e1, e2, e3, e4, e5⟩ := Chain.next hTn (List.Pairwise.imp_of_mem (fun {x y} hx hy hb => (hb.wr.resolve_right fun hf => (hp'.2.2 y hy q (List.mem_cons_self ..)).anc (hf _ hlt (hp'.2.2 y hy q (List.mem_cons_self ..)).idx.symm)).1) hp'.1) hdis hc
      obtain ⟨a1, w1, ψ, p1, p2, p3, p4, p5, p6, p7⟩ := It.one (by rw [e1, e2]; exact hi q hql) e4 B φ b a w hr hg (fun m hm => hf m ⟨q, hql, by rw [← e3]; exact hm⟩) ht (fun d hd' => hd q.o d (Array.mem_of_getElem? (hi q hql)) (by rw [← e2]; exact hd')) hk
      have hsub : ∀ x, x ∈ l1 ++ l2 → x ∈ l1 ++ q :: l2 := by
        intro x hx
        rcases List.mem_append.1 hx with hx | hx
        · exact List.mem_append_left _ hx
        · exact List.mem_append_right _ (List.mem_cons_of_mem _ hx)
      have hne : ∀ x, x ∈ l1 ++ l2 → x.p.1 ≠ q.p.1 := by
        intro x hx
        rcases List.mem_append.1 hx with hx | hx
        · exact (hp'.2.2 x hx q (List.mem_cons_self ..)).idx
        · exact (hp2.1 x hx).idx.symm
      obtain ⟨a2, w2, χ, q1, q2, q3, q4, q5, q6, q7⟩ := ih (l1 ++ l2) (listed.setIfInBounds q.p.1 true) s1 sF (by simp only [List.length_append, List.length_cons] at hlen ⊢; omega) (by simpa using hs) e5
        (List.pairwise_append.2 ⟨hp'.1, hp2.2, fun x hx y hy => hp'.2.2 x hx y (List.mem_cons_of_mem _ hy)⟩) (fun x hx => hi x (hsub x hx)) (by
          intro j hj
          by_cases e : j = q.p.1
          · subst e
            constructor
            · intro h; rw [getD_set_true' _ hlt2] at h; cases h
            · rintro ⟨x, hx, hxi⟩; exact absurd hxi (hne x hx)
          · rw [getD_set_ne' _ (Ne.symm e), hl j hj]
            constructor
            · rintro ⟨x, hx, hxi⟩
              refine ⟨x, ?_, hxi⟩
              rcases List.mem_append.1 hx with hx | hx
              · exact List.mem_append_left _ hx
              · rcases List.mem_cons.1 hx with rfl | hx
                · exact absurd hxi.symm e
                · exact List.mem_append_right _ hx
            · rintro ⟨x, hx, hxi⟩; exact ⟨x, hsub x hx, hxi⟩) (by
          intro j o' hj hoj k hk'
          by_cases e : k = q.p.1
          · subst e; exact getD_set_true' _ hlt2
          · rw [getD_set_ne' _ (Ne.symm e)]
            by_cases e' : j = q.p.1
            · subst e'
              rw [ho] at hoj
              cases hoj
              exact hdo k hk'
            · rw [getD_set_ne' _ (Ne.symm e')] at hj
              exact hcl j o' hj hoj k hk') (t / (Region.ready .any ops listed).length) B ψ b a1 w1 p3 (hg.mono p1) (by
          rintro m ⟨x, hx, hm⟩
          obtain ⟨k1, k2⟩ := p2 m fun h => hdis x hx m hm (by rw [← e3]; exact h)
          rw [k1, k2]; exact hf m ⟨x, hsub x hx, hm⟩) p4 (fun o d ho' hd' => by rw [p6]; exact hd o d ho' hd') hk
      refine ⟨a2, w2, χ, p1.trans q1, fun m hm => ?_, q3, q4, q5.trans p5, q6.trans p6, fun k cs => ?_⟩
      · obtain ⟨k1, k2⟩ := p2 m fun h => hm ⟨q, hql, by rw [← e3]; exact h⟩
        obtain ⟨k3, k4⟩ := q2 m fun ⟨x, hx, h⟩ => hm ⟨x, hsub x hx, h⟩
        exact ⟨k3.trans k1, k4.trans k2⟩
      · have := p7 (Region.linearise.go .any ops fuel (t / (Region.ready .any ops listed).length) (listed.setIfInBounds q.p.1 true) []) k cs
        rw [e1] at this
        exact this.trans (q7 k cs)
end Go.Ev
