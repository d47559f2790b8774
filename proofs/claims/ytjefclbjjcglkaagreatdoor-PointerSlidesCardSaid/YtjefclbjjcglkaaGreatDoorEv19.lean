/- The evaluator: drawn regions hold. -/
import Derived.Test.YtjefclbjjcglkaaGreatDoorEv18
set_option linter.unusedVariables false
set_option linter.unusedSimpArgs false
namespace Go.Ev
open Go
variable {R : Type} {P : Program} {E : Env} {r : R}
theorem apartL {l : List Nat} {d : Nat} (h : (!(memN l d)) = true) : d ∉ l := by
  intro hm
  rw [memN_iff.2 hm] at h
  cases h
structure PairP (ops : Array Oper) (T : List (List Nat)) (p q : Nat × List Nat) : Prop where
  anc : q.1 ∉ T.getD p.1 []
  idx : p.1 ≠ q.1
  wr : (∀ o x, ops[p.1]? = some o → ops[q.1]? = some x → (∀ d, x.dst = some d → d ∉ looks ops.toList o) ∧ ∀ d, o.dst = some d → x.dst ≠ some d) ∨ Fin ops T q.1
  turn : p.1 ∈ T.getD q.1 [] ∨ ∀ o x, ops[p.1]? = some o → ops[q.1]? = some x → (∀ d, o.dst = some d → d ∉ looks ops.toList x) ∧ (opKind o.op = 0 ∨ opKind x.op = 0 ∨ (opKind o.op = 1 ∧ opKind x.op ≤ 2) ∨ (opKind x.op = 2 ∧ 2 ≤ opKind o.op) ∨ (opKind o.op = 1 ∧ p.1 ∈ q.2 ∧ ∀ d, o.dst = some d → d ∉ looks ops.toList o))
theorem pairOk_spec {ops : Array Oper} {T : List (List Nat)} {p q : Nat × List Nat} (h : pairOk ops.toList T p q = true) : PairP ops T p q := by
  simp only [pairOk, Bool.and_eq_true, Bool.or_eq_true] at h
  obtain ⟨⟨⟨h1, h2⟩, h3⟩, h4⟩ := h
  refine ⟨apartL h1, fun e => ?_, h3.imp (fun h3 o x ho hx => ?_) (fun h3 j hj hne => ?_), ?_⟩
  · rw [e, Nat.beq_refl] at h2; cases h2
  · unfold wrOk at h3
    rw [getL_eq, getL_eq, Array.getElem?_toList, Array.getElem?_toList, ho, hx] at h3
    dsimp only at h3
    cases hd : x.dst with
    | none => exact ⟨fun d hd => (by cases hd), fun d _ hd => (by cases hd)⟩
    | some d =>
      rw [hd] at h3
      simp only [Bool.and_eq_true] at h3
      refine ⟨fun e he => by cases he; exact apartL h3.1, fun e he hc => ?_⟩
      cases hc
      rw [he] at h3
      have := h3.2
      simp only [Nat.beq_refl] at this
      cases this
  · simp only [finOk, List.all_eq_true, List.mem_range, Bool.or_eq_true, memN_iff] at h3
    rcases h3 j (by simpa using hj) with h | h
    · exact absurd (Nat.eq_of_beq_eq_true h) hne
    · exact h
  · rcases h4 with h4 | h4
    · exact .inl (memN_iff.1 h4)
    · refine .inr fun o x ho hx => ?_
      unfold turnOk at h4
      rw [getL_eq, getL_eq, Array.getElem?_toList, Array.getElem?_toList, ho, hx] at h4
      dsimp only at h4
      simp only [Bool.and_eq_true, Bool.or_eq_true, memN_iff, Nat.beq_eq, Nat.ble_eq] at h4
      obtain ⟨k1, k2⟩ := h4
      refine ⟨fun d hd => by rw [hd] at k1; exact apartL k1, ?_⟩
      rcases k2 with (((k | k) | k) | k) | k
      · exact .inl k
      · exact .inr (.inl k)
      · exact .inr (.inr (.inl k))
      · exact .inr (.inr (.inr (.inl k)))
      · exact .inr (.inr (.inr (.inr ⟨k.1.1, k.1.2, fun d hd => by have := k.2; rw [hd] at this; exact apartL this⟩)))
theorem pairsOk_spec {ops : Array Oper} {T : List (List Nat)} : ∀ {l : List (Nat × List Nat)}, pairsOk ops.toList T l = true → l.Pairwise (PairP ops T)
  | [], _ => .nil
  | p :: l, h => by
    simp only [pairsOk, Bool.and_eq_true, List.all_eq_true] at h
    exact List.pairwise_cons.2 ⟨fun q hq => pairOk_spec (h.1 q hq), pairsOk_spec h.2⟩
def It.kd (x : It) : Prop := match x.k with
  | .calm => True
  | .read => opKind x.o.op = 1
  | .new _ _ => opKind x.o.op = 2
  | .loud _ _ => opKind x.o.op ≠ 0 ∧ opKind x.o.op ≠ 1 ∧ opKind x.o.op ≠ 2
def CsT (y x : It) : Prop := ∀ N cs, y.k = .read → x.k = .loud N cs → y.p.1 ∈ x.p.2 → (y.p.1, y.o, y.v) ∈ cs
theorem turn_of {ops : Array Oper} {T : List (List Nat)} {x y : It} (hx : ops[x.p.1]? = some x.o) (hy : ops[y.p.1]? = some y.o) (kx : x.kd) (ky : y.kd) (hc : CsT x y) (h : PairP ops T x.p y.p) :
    x.p.1 ∈ T.getD y.p.1 [] ∨ ((∀ d, x.o.dst = some d → d ∉ looks ops.toList y.o) ∧ Kd.turn x y (∀ d, x.o.dst = some d → d ∉ looks ops.toList x.o)) := by
  rcases h.turn with h1 | h1
  · exact .inl h1
  · obtain ⟨q1, q2⟩ := h1 _ _ hx hy
    refine .inr ⟨q1, ?_⟩
    unfold Kd.turn
    unfold It.kd at kx ky
    cases hkx : x.k <;> cases hky : y.k <;> rw [hkx] at kx <;> rw [hky] at ky <;> simp only at kx ky ⊢ <;> first
      | (exfalso; omega)
      | skip
    rcases q2 with q | q | q | q | q
    · omega
    · omega
    · omega
    · omega
    · exact ⟨q.2.2, hc _ _ hkx hky q.2.1⟩
theorem draw_chain (hE : EOk P E) {call : Caller R} (hcall : CallOK P call) {ops : Array Oper} {A : List (List Nat)} : ∀ (l : List (Nat × List Nat)) (done : List It) (tm : TM) (h : H) (vs : List (Nat × Option AV)) (hs : List (T AO)) (K : TM → H → Option R),
    (done.map (·.p) ++ l).Pairwise (PairP ops A) → (∀ x, x ∈ done → ops[x.p.1]? = some x.o ∧ x.kd ∧ (x.k = .read → lookV vs x.p.1 = some (some x.v))) → (∀ j ov, lookV vs j = some ov → ∃ x, x ∈ done ∧ x.p.1 = j) → drawK E call ops.toList l tm h vs hs K = some r →
    ∃ L tm' h', K tm' h' = some r ∧ h.nx ≤ h'.nx ∧ L.map (·.p) = l ∧ Chain P ops L ⟨tm.get, h.t.get⟩ ⟨tm'.get, h'.t.get⟩ ∧ (∀ x, x ∈ L → ops[x.p.1]? = some x.o ∧ x.kd) ∧ (∀ x, x ∈ L → ∀ m, x.k.nm m → h.nx ≤ m ∧ m < h'.nx) ∧ L.Pairwise (Bf ops A) ∧ (∀ y, y ∈ done → ∀ x, x ∈ L → CsT y x) ∧
      (∀ x, x ∈ L → ∀ n, x.nw n → (∀ t, t ∈ hs → T.get t n = none) ∧ h.t.get n = none)
  | [], done, tm, h, vs, hs, K, hp, hd, hv, h1 => ⟨[], tm, h, h1, Nat.le_refl _, rfl, rfl, fun x hx => absurd hx (by simp), fun x hx => absurd hx (by simp), .nil, fun y _ x hx => absurd hx (by simp), fun x hx => absurd hx (by simp)⟩
  | p :: l, done, tm, h, vs, hs, K, hp, hd, hv, h1 => by
    obtain ⟨o, ho, h1⟩ := ob_some (show ob (getL ops.toList p.1) _ = some r from h1)
    rw [getL_eq, Array.getElem?_toList] at ho
    obtain ⟨w, h1, hw⟩ := wantF_spec (ops := ops) h1
    have hp2 := List.pairwise_append.1 hp
    have hpl := List.pairwise_cons.1 hp2.2.1
    -- what is left, once the head is known
    have fin : ∀ (x : It) (vs' : List (Nat × Option AV)) (hs' : List (T AO)) (tm1 : TM) (h1 : H), x.p = p → x.o = o → x.kd → lookV vs' = (fun k => if p.1 = k then lookV vs' p.1 else lookV vs k) → (∃ ov, lookV vs' p.1 = some ov) → (x.k = .read → lookV vs' x.p.1 = some (some x.v)) → h.nx ≤ h1.nx → x.ok P ops ⟨tm.get, h.t.get⟩ ⟨tm1.get, h1.t.get⟩ → (∀ m, x.k.nm m → h.nx ≤ m ∧ m < h1.nx) →
        (∀ t, t ∈ hs → t ∈ hs') → (h1 = h ∨ h.t ∈ hs') → (∀ n, x.nw n → (∀ t, t ∈ hs → T.get t n = none) ∧ h.t.get n = none) → (∀ N cs, x.k = .loud N cs → ∀ c, c ∈ cs → ∃ d, d ∈ done ∧ d.o = c.2.1) → (∀ y, y ∈ done → CsT y x) →
        drawK E call ops.toList l tm1 h1 vs' hs' K = some r →
        ∃ L tm' h', K tm' h' = some r ∧ h.nx ≤ h'.nx ∧ L.map (·.p) = p :: l ∧ Chain P ops L ⟨tm.get, h.t.get⟩ ⟨tm'.get, h'.t.get⟩ ∧ (∀ x, x ∈ L → ops[x.p.1]? = some x.o ∧ x.kd) ∧ (∀ x, x ∈ L → ∀ m, x.k.nm m → h.nx ≤ m ∧ m < h'.nx) ∧ L.Pairwise (Bf ops A) ∧ (∀ y, y ∈ done → ∀ x, x ∈ L → CsT y x) ∧
          (∀ x, x ∈ L → ∀ n, x.nw n → (∀ t, t ∈ hs → T.get t n = none) ∧ h.t.get n = none) := by
      intro x vs' hs' tm1 h2 hxp hxo hkd hlk hlk1 hrd hnx hok hnm hhs hheap hnew hcs hcst hrun
      have hxat : ops[x.p.1]? = some x.o := by rw [hxp, hxo]; exact ho
      obtain ⟨L, tm', h', k1, k2, k3, k4, k5, k6, k7, k8, k9⟩ := draw_chain hE hcall l (done ++ [x]) tm1 h2 vs' hs' K (by simpa [hxp] using hp) (by
          intro y hy
          rcases List.mem_append.1 hy with hy | hy
          · obtain ⟨q1, q2, q3⟩ := hd y hy
            refine ⟨q1, q2, fun hk => ?_⟩
            have hne : p.1 ≠ y.p.1 := Ne.symm (hp2.2.2 y.p (List.mem_map_of_mem hy) p (List.mem_cons_self ..)).idx
            rw [hlk]
            simp only [if_neg hne]
            exact q3 hk
          · rw [List.mem_singleton] at hy
            subst hy
            exact ⟨hxat, hkd, hrd⟩) (by
          intro j ov hj
          by_cases e : p.1 = j
          · exact ⟨x, by simp, by rw [hxp]; exact e⟩
          · rw [hlk] at hj
            simp only [if_neg e] at hj
            obtain ⟨y, hy, hyj⟩ := hv j ov hj
            exact ⟨y, List.mem_append_left _ hy, hyj⟩) hrun
      have hnews : ∀ y, y ∈ L → ∀ n, y.nw n → (∀ t, t ∈ hs → T.get t n = none) ∧ h.t.get n = none := by
        intro y hy n hn
        obtain ⟨q1, q2⟩ := k9 y hy n hn
        refine ⟨fun t ht => q1 t (hhs t ht), ?_⟩
        rcases hheap with e | e
        · rw [e] at q2; exact q2
        · exact q1 _ e
      refine ⟨x :: L, tm', h', k1, by omega, by simp [k3, hxp], ⟨fun y hy n hn => ?_, _, hok, k4⟩, ?_, ?_, List.pairwise_cons.2 ⟨fun y hy => ?_, k7⟩, ?_, ?_⟩
      · rcases List.mem_cons.1 hy with rfl | hy
        · exact (hnew n hn).2
        · exact (hnews y hy n hn).2
      · intro y hy
        rcases List.mem_cons.1 hy with rfl | hy
        · exact ⟨hxat, hkd⟩
        · exact k5 y hy
      · intro y hy m hm
        rcases List.mem_cons.1 hy with rfl | hy
        · have := hnm m hm; omega
        · have := k6 y hy m hm; omega
      · have hyp : y.p ∈ l := by rw [← k3]; exact List.mem_map_of_mem hy
        have hP : PairP ops A x.p y.p := by rw [hxp]; exact hpl.1 _ hyp
        obtain ⟨hyat, hykd⟩ := k5 y hy
        refine ⟨hP.wr.imp (fun w => w _ _ hxat hyat) id, (Classical.em (Fin ops A y.p.1)).imp id fun hnf N cs hk c hc d hdd => ?_, hP.anc, hP.idx, turn_of hxat hyat hkd hykd (k8 x (by simp) y hy) hP, fun m hm hm' => ?_⟩
        · obtain ⟨z, hz, hzo⟩ := hcs N cs hk c hc
          have hPz : PairP ops A z.p y.p := hp2.2.2 z.p (List.mem_map_of_mem hz) y.p (List.mem_cons_of_mem _ hyp)
          rw [← hzo]
          exact ((hPz.wr.resolve_right hnf) _ _ (hd z hz).1 hyat).1 d hdd
        · have := hnm m hm; have := k6 y hy m hm'; omega
      · intro y hy z hz
        rcases List.mem_cons.1 hz with rfl | hz
        · exact hcst y hy
        · exact k8 y (List.mem_append_left _ hy) z hz
      · intro y hy n hn
        rcases List.mem_cons.1 hy with rfl | hy
        · exact hnew n hn
        · exact hnews y hy n hn
    have hlkc : ∀ ov : Option AV, lookV ((p.1, ov) :: vs) = (fun k => if p.1 = k then lookV ((p.1, ov) :: vs) p.1 else lookV vs k) ∧ lookV ((p.1, ov) :: vs) p.1 = some ov := by
      intro ov
      have e : ∀ k, lookV ((p.1, ov) :: vs) k = if p.1 = k then some ov else lookV vs k := by
        intro k
        show bf (Nat.beq p.1 k) (some ov) (lookV vs k) = _
        by_cases e : p.1 = k
        · rw [if_pos e, e, Nat.beq_refl]; rfl
        · rw [if_neg e, show Nat.beq p.1 k = false from by rw [Bool.eq_false_iff]; intro hc; exact e (Nat.eq_of_beq_eq_true hc)]; rfl
      have e1 := e p.1
      rw [if_pos rfl] at e1
      exact ⟨funext fun k => by rw [e1, e k], e1⟩
    have hnil : ∀ (x : It), (∀ N cs, x.k ≠ .loud N cs) → ∀ y, y ∈ done → CsT y x := fun x hx y _ N cs _ hk _ => absurd hk (hx N cs)
    cases w with
    | false =>
      have h2 : setT tm o.dst .u (fun tm => drawK E call ops.toList l tm h ((p.1, none) :: vs) hs K) = some r := h1
      rw [setT_eq] at h2
      obtain ⟨l1, l2⟩ := hlkc none
      exact fin ⟨p, o, .u, .calm⟩ _ hs (putTM tm o.dst .u) h rfl rfl trivial l1 ⟨_, l2⟩ (fun hk => by cases hk) (Nat.le_refl _) ⟨.inl ⟨rfl, hw⟩, by rw [putTM_get]⟩ (fun m hm => hm.elim) (fun t ht => ht) (.inl rfl) (fun n ⟨ob, hn⟩ => by cases hn) (fun N cs hk => by cases hk) (hnil _ fun N cs hk => by cases hk) h2
    | true =>
      obtain ⟨hs', h2, c1, c2, c3⟩ := chgK_spec (show chgK (opKind o.op) h hs (fun hs => opK o.op E tm h call fun v h => setT tm o.dst v fun tm => againK E ops.toList p.2 vs tm h (drawK E call ops.toList l tm h ((p.1, some v) :: vs) hs K)) = some r from h1)
      have hnd := no_defer h2
      have hFa : ∀ {X : TM → Prop}, X tm → Fa ops o tm.get X := fun hX => ⟨hnd, hw, tm, fun _ _ => rfl, hX⟩
      by_cases k0 : opKind o.op = 0
      · obtain ⟨v, q1, q2⟩ := kind0_s hE k0 h2
        rw [setT_eq] at q1
        obtain ⟨q3, -⟩ := againK_spec hE q1
        obtain ⟨l1, l2⟩ := hlkc (some v)
        exact fin ⟨p, o, v, .calm⟩ _ hs' (putTM tm o.dst v) h rfl rfl trivial l1 ⟨_, l2⟩ (fun hk => by cases hk) (Nat.le_refl _) ⟨.inr (hFa q2), by rw [putTM_get]⟩ (fun m hm => hm.elim) c1 (.inl rfl) (fun n ⟨ob, hn⟩ => by cases hn) (fun N cs hk => by cases hk) (hnil _ fun N cs hk => by cases hk) q3
      by_cases k1 : opKind o.op = 1
      · obtain ⟨v, q1, q2⟩ := kind1_s hE k1 h2
        rw [setT_eq] at q1
        obtain ⟨q3, -⟩ := againK_spec hE q1
        obtain ⟨l1, l2⟩ := hlkc (some v)
        exact fin ⟨p, o, v, .read⟩ _ hs' (putTM tm o.dst v) h rfl rfl k1 l1 ⟨_, l2⟩ (fun _ => l2) (Nat.le_refl _) ⟨hFa q2, by rw [putTM_get]⟩ (fun m hm => hm.elim) c1 (.inl rfl) (fun n ⟨ob, hn⟩ => by cases hn) (fun N cs hk => by cases hk) (hnil _ fun N cs hk => by cases hk) q3
      have cin := c2 k0 k1
      by_cases k2 : opKind o.op = 2
      · obtain ⟨v, h', ob, q1, q2, q3, q4⟩ := kind2_s hE k2 h2
        rw [setT_eq] at q1
        obtain ⟨q5, -⟩ := againK_spec hE q1
        obtain ⟨l1, l2⟩ := hlkc (some v)
        refine fin ⟨p, o, v, .new h.nx ob⟩ _ hs' (putTM tm o.dst v) h' rfl rfl k2 l1 ⟨_, l2⟩ (fun hk => by cases hk) (by omega) ⟨hFa q4, by rw [putTM_get, q3]⟩ (fun m hm => ?_) c1 (.inr cin) (fun n ⟨ob', hn⟩ => ?_) (fun N cs hk => by cases hk) (hnil _ fun N cs hk => by cases hk) q5
        · have hm : m = h.nx := hm
          omega
        · cases hn
          obtain ⟨z1, z2⟩ := c3 k2
          exact ⟨z2, z1⟩
      · obtain ⟨v, h', N, q1, q2, q3, q4⟩ := opK_s hE hcall h2
        dsimp only at q1
        rw [setT_eq] at q1
        obtain ⟨q5, q6⟩ := againK_spec hE q1
        obtain ⟨l1, l2⟩ := hlkc (some v)
        refine fin ⟨p, o, v, .loud N (p.2.filterMap fun j => match lookV vs j, ops[j]? with | some (some v), some o => if opKind o.op = 1 then some (j, o, v) else none | _, _ => none)⟩ _ hs' (putTM tm o.dst v) h' rfl rfl ⟨k0, k1, k2⟩ l1 ⟨_, l2⟩ (fun hk => by cases hk) q2 ⟨_, hFa q4, by rw [putTM_get], fun c hc => ?_⟩ (fun m hm => q3 m hm) c1 (.inr cin) (fun n ⟨ob', hn⟩ => by cases hn) (fun N cs hk c hc => ?_) (fun y hy N cs hk hk' hm => ?_) q5
        · obtain ⟨j, hj, hjc⟩ := List.mem_filterMap.1 hc
          split at hjc
          · rename_i v' o' hv' ho'
            split at hjc
            · rename_i hk
              cases hjc
              exact q6 j hj v' hv' o' ho' hk
            · cases hjc
          · cases hjc
        · cases hk
          obtain ⟨j, hj, hjc⟩ := List.mem_filterMap.1 hc
          split at hjc
          · rename_i v' o' hv' ho'
            split at hjc
            · cases hjc
              obtain ⟨y, hy, hyj⟩ := hv j _ hv'
              refine ⟨y, hy, ?_⟩
              have := (hd y hy).1
              rw [hyj, ho'] at this
              exact (Option.some.inj this).symm
            · cases hjc
          · cases hjc
        · cases hk'
          obtain ⟨z1, z2, z3⟩ := hd y hy
          unfold It.kd at z2
          rw [hk] at z2
          refine List.mem_filterMap.2 ⟨y.p.1, hm, ?_⟩
          rw [z3 hk, z1]
          simp only [if_pos z2]
theorem draw_ok (hE : EOk P E) : DrawOK R P E := by
  intro call hcall f id ops tm h K r h1
  obtain ⟨t, ht, h1⟩ := ob_some (show ob (T.get E.rg f) _ = some r from h1)
  obtain ⟨pi, hpi, h1⟩ := ob_some h1
  obtain ⟨hok, h2⟩ := bf_some h1
  have hok : (tabOk ops.toList (mkT ops.toList []) && (Nat.beq (lenN pi) (lenN ops.toList) && ((List.range ops.toList.length).all fun j => pi.any fun p => Nat.beq p.1 j)) && pairsOk ops.toList (mkT ops.toList []) pi) = true := hok
  simp only [Bool.and_eq_true, List.all_eq_true, List.any_eq_true, List.mem_range, Nat.beq_eq, lenN_eq] at hok
  obtain ⟨⟨hT, hlen, hall⟩, hpairs⟩ := hok
  obtain ⟨L, tm', h', k1, k2, k3, k4, k5, k6, k7, -, -⟩ := draw_chain (A := mkT ops.toList []) hE hcall pi [] tm h [] [] K (by simpa using pairsOk_spec hpairs) (fun x hx => absurd hx (by simp)) (fun j ov hj => by cases hj) h2
  refine ⟨tm', h', namesOf L, k1, k2, fun m ⟨x, hx, hm⟩ => k6 x hx m hm, fun B φ b a w hr hg hf ht hd hk => ?_⟩
  have hLlen : L.length = ops.size := by
    have : L.length = pi.length := by rw [← k3, List.length_map]
    rw [this, hlen]; simp
  have hr' : HR B φ h.t.get { w with drawn := w.drawn + 1 } := ⟨hr.keep, hr.fb, hr.size, hr.os, hr.out, hr.tape, fun n o q => by
    have := hr.obj n o q
    cases o <;> exact this, hr.own, hr.ro, hr.apart, hr.lt⟩
  obtain ⟨a', w', ψ, p1, p2, p3, p4, p5, p6, p7⟩ := exec (tabOk_spec hT) ops.size L (Array.replicate ops.size false) _ _ (by omega) (by simp) k4 k7 (fun x hx => (k5 x hx).1) (by
      intro i hi
      constructor
      · intro _
        obtain ⟨p, hp, hpi⟩ := hall i (by simpa using hi)
        rw [← k3] at hp
        obtain ⟨x, hx, hxp⟩ := List.mem_map.1 hp
        exact ⟨x, hx, by rw [hxp]; exact hpi⟩
      · intro _
        simp [hi]) (by
      intro j o hj
      exfalso
      by_cases h : j < ops.size
      · simp [h] at hj
      · simp [h] at hj) (w.tape w.drawn (.order b.fn id)) B φ b a _ hr' hg hf ht hd hk
  refine ⟨a', w', ψ, p1, p2, p3, p4, p5, p6, fun k cs => .head stepR_region_draw ?_⟩
  have e : Region.schedule (P.follows .mixedOrders) ops (w.tape w.drawn (.order b.fn id)) = Region.linearise.go .any ops ops.size (w.tape w.drawn (.order b.fn id)) (Array.replicate ops.size false) [] := by
    unfold Region.schedule
    rw [hE.mixed]
    rfl
  rw [e]
  exact (p7 k cs).trans (.one stepR_region_end)
theorem run_ok' (hE : EOk P E) (n : Nat) : RunOK P (run (R := R) E n) := run_ok hE (draw_ok hE) n
end Go.Ev
