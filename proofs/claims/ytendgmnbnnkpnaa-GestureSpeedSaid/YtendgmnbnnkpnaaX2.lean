/- Calm regions: the theorem. -/
import Derived.Test.YtendgmnbnnkpnaaX1
namespace Go
section
variable {P : Program} {ops : Array Oper} {C : World → Prop} {n0 : Nat} {Mv : World → World → Prop} {I D : World → Prop} {Q : Exit → Act → World → Prop}
/-- the tail may not panic -/
def only (Q : Exit → Act → World → Prop) : Exit → Act → World → Prop
  | .normal, a, w => Q .normal a w
  | _, _, _ => False
theorem wpOp_only {i : Nat} {K : Act → World → Prop} {a : Act} {w : World} (h : wpOp P ops (only Q) i K a w) : wpOp P ops Q i K a w := by
  unfold wpOp at *
  cases ho : ops[i]? with
  | none => simpa only [ho] using h
  | some o =>
    simp only [ho] at h ⊢
    split
    · rename_i hw
      rw [if_pos hw] at h
      rcases h with h | ⟨_, _, _, h⟩
      · refine .inl ?_
        unfold Oper.wp at *
        generalize (execOp a.eval o).run P w = r at *
        cases r with
        | ok n w' =>
          cases n <;> simp only [Oper.upon] at h ⊢ <;> first
            | exact h
            | exact Calls.mono h (fun e w'' he => by cases e <;> first | exact he | exact he.elim | (obtain ⟨_, _, he⟩ := he; exact he.elim))
        | halt x w' => cases x <;> simp only [Oper.upon] at h ⊢ <;> first | exact h | exact h.elim
      · exact h.elim
    · rename_i hw
      rw [if_neg hw] at h
      exact h
theorem wpAny_only : ∀ (fuel : Nat) (listed : Array Bool) (a : Act) (w : World), wpAny P .any ops (only Q) fuel listed a w → wpAny P .any ops Q fuel listed a w
  | 0, _, _, _, h => ⟨h.1, h.2⟩
  | fuel + 1, _, _, _, h => ⟨fun h0 => h.1 h0, fun i hi => wpOp_only (wpOp_mono (fun a' w' => wpAny_only fuel _ a' w') (h.2 i hi))⟩
structure Inv (ops : Array Oper) (listed : Array Bool) (pend : List Nat) : Prop where
  size : listed.size = ops.size
  closed : ∀ (i : Nat) (o : Oper), ops[i]? = some o → listed.getD i false = true → ∀ e, e ∈ o.after → Region.binds .any e = true → listed.getD e.on false = true
  pend : ∀ i, i < ops.size → (listed.getD i true = false ↔ i ∈ pend)
structure Edg (ops : Array Oper) : Prop where
  sel : NoSel ops
  on : ∀ (i : Nat) (o : Oper), ops[i]? = some o → ∀ e, e ∈ o.after → Region.binds .any e = true → e.on < ops.size
theorem dep_spec {i j : Nat} {o : Oper} (hi : ops[i]? = some o) : dep ops i j = true ↔ ∃ e, e ∈ o.after ∧ Region.binds .any e = true ∧ e.on = j := by
  simp only [dep, hi, Option.map_some, Option.getD_some]
  rw [← Array.any_toList, List.any_eq_true]
  simp
theorem listed_pend {listed : Array Bool} {pend : List Nat} (h : Inv ops listed pend) {i : Nat} (hi : i < ops.size) : listed.getD i false = true ↔ i ∉ pend := by
  rw [← h.pend i hi]
  have : i < listed.size := by rw [h.size]; exact hi
  simp [this]
theorem ready_spec {listed : Array Bool} {pend : List Nat} (h : Inv ops listed pend) (hE : Edg ops) {i : Nat} : i ∈ Region.ready .any ops listed ↔ i < ops.size ∧ i ∈ pend ∧ ∀ j, j ∈ pend → dep ops i j = false := by
  rw [mem_ready]
  constructor
  · rintro ⟨h0, o, ho, hall⟩
    have hi : i < ops.size := (Array.getElem?_eq_some_iff.1 ho).1
    refine ⟨hi, (h.pend i hi).1 h0, fun j hj => ?_⟩
    cases hd : dep ops i j with
    | false => rfl
    | true =>
      obtain ⟨e, he, hb, rfl⟩ := (dep_spec ho).1 hd
      have hl := hall e he hb
      exact absurd hj ((listed_pend h (hE.on i o ho e he hb)).1 hl)
  · rintro ⟨hi, hp, hd⟩
    refine ⟨(h.pend i hi).2 hp, ops[i], by simp [hi], fun e he hb => ?_⟩
    have ho : ops[i]? = some ops[i] := by simp [hi]
    have hs := hE.on i _ ho e he hb
    rw [listed_pend h hs]
    intro hj
    have := hd e.on hj
    rw [(dep_spec ho).2 ⟨e, he, hb, rfl⟩] at this
    cases this
theorem Inv.step {listed : Array Bool} {l1 l2 : List Nat} {i : Nat} (h : Inv ops listed (l1 ++ i :: l2)) (hE : Edg ops) (hn : (l1 ++ i :: l2).Nodup) (hr : i ∈ Region.ready .any ops listed) :
    Inv ops (listed.setIfInBounds i true) (l1 ++ l2) := by
  obtain ⟨hi, hp, hd⟩ := (ready_spec h hE).1 hr
  refine ⟨by simp [h.size], fun k o hk hl e he hb => ?_, fun k hk => ?_⟩
  · by_cases hki : k = i
    · subst hki
      obtain ⟨_, o', ho', hall⟩ := mem_ready.1 hr
      obtain rfl : o = o' := Option.some.inj (hk.symm.trans ho')
      exact getD_set_true (hall e he hb)
    · rw [getD_set_ne false (Ne.symm hki)] at hl
      exact getD_set_true (h.closed k o hk hl e he hb)
  · by_cases hki : k = i
    · subst hki
      have hlt : k < listed.size := by rw [h.size]; exact hi
      have : k ∉ l1 ++ l2 := by
        intro hm
        have h3 := List.nodup_append.1 hn
        rcases List.mem_append.1 hm with h4 | h4
        · exact h3.2.2 k h4 k (List.mem_cons_self ..) rfl
        · exact (List.nodup_cons.1 h3.2.1).1 h4
      simp [hlt, this]
    · rw [getD_set_ne true (Ne.symm hki), h.pend k hk]
      simp [hki]
/-- the order that is walked -/
structure Ordr (ops : Array Oper) (lq lm lw lp τ : List Nat) : Prop where
  nodup : (lq ++ lm ++ lw ++ lp ++ τ).Nodup
  fwd : (lq ++ lm ++ lw ++ lp ++ τ).Pairwise fun i j => dep ops i j = false
  irr : ∀ i, i ∈ lq ++ lm ++ lw ++ lp ++ τ → dep ops i i = false
  lt : ∀ i, i ∈ lq ++ lm ++ lw ++ lp ++ τ → i < ops.size
  ap : (lq ++ lm ++ lw ++ lp).Pairwise fun j i => dep ops i j = true ∨ apartB ops j i = true
  apM : lm.Pairwise fun j i => apartB ops j i = true
  apW : ∀ i, i ∈ lm ++ lp → ∀ j, j ∈ lw → apartB ops i j = true
  apT : ∀ i, i ∈ lq ++ lm ++ lp → ∀ t, t ∈ τ → dep ops t i = true ∨ apartB ops i t = true
theorem Ordr.sub {lq lm lw lp τ lq' lm' lw' lp' τ' : List Nat} (h : Ordr ops lq lm lw lp τ) (h1 : lq'.Sublist lq) (h2 : lm'.Sublist lm) (h5 : lw'.Sublist lw) (h3 : lp'.Sublist lp) (h4 : τ'.Sublist τ) : Ordr ops lq' lm' lw' lp' τ' := by
  have hs : (lq' ++ lm' ++ lw' ++ lp').Sublist (lq ++ lm ++ lw ++ lp) := ((h1.append h2).append h5).append h3
  have hs' : (lq' ++ lm' ++ lp').Sublist (lq ++ lm ++ lp) := (h1.append h2).append h3
  have ha : (lq' ++ lm' ++ lw' ++ lp' ++ τ').Sublist (lq ++ lm ++ lw ++ lp ++ τ) := hs.append h4
  exact ⟨h.nodup.sublist ha, h.fwd.sublist ha, fun i hi => h.irr i (ha.subset hi), fun i hi => h.lt i (ha.subset hi), h.ap.sublist hs, h.apM.sublist h2, fun i hi j hj => h.apW i ((h2.append h3).subset hi) j (h5.subset hj), fun i hi t ht => h.apT i (hs'.subset hi) t (h4.subset ht)⟩
def chain (ops : Array Oper) : List Nat → Bool
  | x :: y :: l => dep ops y x && chain ops (y :: l)
  | _ => true
theorem chain_tail {x : Nat} {l : List Nat} (h : chain ops (x :: l) = true) : chain ops l = true := by
  cases l with
  | nil => rfl
  | cons y l => simp only [chain, Bool.and_eq_true] at h; exact h.2
theorem chain_head : ∀ {τ : List Nat} {t : Nat}, chain ops τ = true → t ∈ τ → (∀ j, j ∈ τ → dep ops t j = false) → ∃ τ', τ = t :: τ'
  | [], _, _, h, _ => by cases h
  | x :: l, t, hc, ht, hd => by
    rcases List.mem_cons.1 ht with rfl | ht
    · exact ⟨l, rfl⟩
    · obtain ⟨τ', rfl⟩ := chain_head (chain_tail hc) ht (fun j hj => hd j (List.mem_cons_of_mem _ hj))
      simp only [chain, Bool.and_eq_true] at hc
      rw [hd x (List.mem_cons_self ..)] at hc
      cases hc.1
/-- every one of these is ahead of 't', by a row of direct edges -/
def cov (ops : Array Oper) (t : Nat) : List Nat → Bool
  | [] => true
  | j :: l => (l ++ [t]).any (fun k => dep ops k j) && cov ops t l
theorem cov_listed {listed : Array Bool} {pend : List Nat} (h : Inv ops listed pend) (hE : Edg ops) {t : Nat} (hr : t ∈ Region.ready .any ops listed) : ∀ {l : List Nat}, (∀ j, j ∈ l → j < ops.size) → cov ops t l = true → ∀ j, j ∈ l → j ∉ pend
  | [], _, _, _, hj => by cases hj
  | k :: l, hlt, hc, j, hj => by
    simp only [cov, Bool.and_eq_true] at hc
    have ih := cov_listed h hE hr (fun j hj => hlt j (List.mem_cons_of_mem _ hj)) hc.2
    rcases List.mem_cons.1 hj with rfl | hj
    · intro hp
      obtain ⟨k, hk, hd⟩ := List.any_eq_true.1 hc.1
      rcases List.mem_append.1 hk with hk | hk
      · have hkp := ih k hk
        have hks := hlt k (List.mem_cons_of_mem _ hk)
        have hkl := (listed_pend h hks).2 hkp
        have ho : ops[k]? = some ops[k] := by simp [hks]
        obtain ⟨e, he, hb, rfl⟩ := (dep_spec ho).1 hd
        have := h.closed k _ ho hkl e he hb
        exact (listed_pend h (hE.on k _ ho e he hb)).1 this hp
      · obtain rfl : k = t := by simpa using hk
        have := ((ready_spec h hE).1 hr).2.2 j hp
        rw [this] at hd; cases hd
    · exact ih j hj
theorem wpOp_at {i : Nat} {o : Oper} (ho : ops[i]? = some o) {K : Act → World → Prop} {a : Act} {w : World} (h : if Region.wanted o (yielded ops a.tmps) then o.wp P a w K Q else K (a.put o.dst undef) w) : wpOp P ops Q i K a w := by
  unfold wpOp
  simp only [ho]
  by_cases hw : Region.wanted o (yielded ops a.tmps) = true
  · rw [if_pos hw] at h ⊢; exact .inl h
  · rw [if_neg hw] at h ⊢; exact h
theorem wp_of_gv {o : Oper} {v : Value} {a : Act} {i : Nat} (hi : ops[i]? = some o) (hg : Gv P ops C o a v) {w : World} (hw : C w) {K : Act → World → Prop} (h : ∀ w', Ext w w' → K (a.put o.dst v) w') : wpOp P ops Q i K a w := by
  refine wpOp_at hi ?_
  rcases hg with ⟨h1, rfl⟩ | ⟨h1, h2⟩
  · rw [if_neg (by rw [h1]; exact Bool.false_ne_true)]; exact h w (Ext.refl w)
  · rw [if_pos h1]
    have h3 := h2 w hw
    unfold Oper.wp
    generalize (execOp a.eval o).run P w = r at *
    cases r with
    | ok n w' =>
      cases n <;> simp only [Oper.givesUpon] at h3 <;> simp only [Oper.upon]
      case value u => obtain ⟨rfl, rfl⟩ := h3; exact h _ (Ext.refl _)
      case enter f args =>
        obtain ⟨rfl, hc⟩ := h3
        exact hc.mono fun e w'' ⟨he, hx⟩ => by subst he; exact h _ hx
    | halt x w' => simp only [Oper.givesUpon] at h3
theorem wp_of_mk {o : Oper} {Φ : Value → Facts} {a : Act} {i : Nat} (hi : ops[i]? = some o) (hg : Mk P ops C n0 Mv a (i, Φ)) {w : World} (hw : C w) {K : Act → World → Prop}
    (h : ∀ u w', Ext w w' → Φ u w' → (∀ b, u.blk = some b → w.heap.size ≤ b ∧ b < w'.heap.size) → K (a.put o.dst u) w') : wpOp P ops Q i K a w := by
  obtain ⟨o', ho', h1, _, _, h2⟩ := hg
  obtain rfl : o = o' := Option.some.inj (hi.symm.trans ho')
  refine wpOp_at hi ?_
  rw [if_pos h1]
  have h3 := h2 w hw
  unfold Oper.wp
  generalize (execOp a.eval o).run P w = r at *
  cases r with
  | ok n w' =>
    cases n <;> simp only [Oper.makesUpon] at h3 <;> simp only [Oper.upon]
    case value u => exact h _ _ h3.1 h3.2.1 h3.2.2
    case enter f args =>
      obtain ⟨rfl, hc⟩ := h3
      exact hc.mono fun e w'' ⟨u, he, hx, hp, hb⟩ => by subst he; exact h _ _ hx hp hb
  | halt x w' => simp only [Oper.makesUpon] at h3
/-- a tail's operation ahead of the pure ones -/
theorem PW.push (hs : NoSel ops) {t : Nat} {ot : Oper} (ht : ops[t]? = some ot) {K : Act → World → Prop} {w : World} : ∀ (l : List Nat) (a : Act), (∀ i, i ∈ l → apartB ops i t = true) →
    PW P ops (fun a3 => wpOp P ops (only Q) t K a3 w) l a → wpOp P ops (only Q) t (fun a' w' => PW P ops (fun a3 => K a3 w') l a') a w
  | [], _, _, h => h
  | i :: l, a, hap, ⟨o, ho, v, hy, h⟩ => by
    have h1 := PW.push hs ht l _ (fun k hk => hap k (List.mem_cons_of_mem _ hk)) h
    have h2 := wpOp_put ht (apartB_spec ho ht (hap i (List.mem_cons_self ..))) (fun cs b => hs i o cs b ho) (fun cs b => hs t ot cs b ht) (fun _ _ _ hf => hf.elim) hy h1
    exact wpOp_mono (fun a' w' ⟨hy', hk⟩ => ⟨o, ho, v, hy', hk⟩) h2
theorem head_ready {listed : Array Bool} {i : Nat} {l : List Nat} (h : Inv ops listed (i :: l)) (hE : Edg ops) (hf : (i :: l).Pairwise fun i j => dep ops i j = false) (hirr : dep ops i i = false) (hlt : i < ops.size) : i ∈ Region.ready .any ops listed :=
  (ready_spec h hE).2 ⟨hlt, List.mem_cons_self .., fun j hj => by
    rcases List.mem_cons.1 hj with rfl | hj
    · exact hirr
    · exact (List.pairwise_cons.1 hf).1 j hj⟩
/-- the tail's phase -/
theorem calmB (hE : Edg ops) : ∀ (fuel : Nat) (listed : Array Bool) (a : Act) (w : World) (lp τ : List Nat), Inv ops listed (lp ++ τ) → Ordr ops [] [] [] lp τ → chain ops τ = true → fuel = (lp ++ τ).length →
    PW P ops (fun a3 => wpOps P ops (only Q) τ a3 w) lp a → wpAny P .any ops (only Q) fuel listed a w
  | 0, listed, a, w, lp, τ, hI, hO, hc, hf, h => by
    have : lp ++ τ = [] := List.eq_nil_of_length_eq_zero hf.symm
    obtain ⟨rfl, rfl⟩ := List.append_eq_nil_iff.1 this
    refine ⟨?_, h⟩
    rw [List.eq_nil_iff_forall_not_mem]
    intro i hi
    have := ((ready_spec hI hE).1 hi).2.1
    cases this
  | fuel + 1, listed, a, w, lp, τ, hI, hO, hc, hf, h => by
    have hO' := hO
    refine ⟨fun h0 => ?_, fun i hi => ?_⟩
    · exfalso
      cases hl : lp ++ τ with
      | nil => rw [hl] at hf; cases hf
      | cons x l =>
        rw [hl] at hI
        have := head_ready hI hE (by rw [← hl]; simpa using hO.fwd) (hO.irr x (by simp [hl])) (hO.lt x (by simp [hl]))
        rw [h0] at this; cases this
    · obtain ⟨hlt, hp, hd⟩ := (ready_spec hI hE).1 hi
      have hio : ops[i]? = some ops[i] := by simp [hlt]
      rcases List.mem_append.1 hp with hp | hp
      · obtain ⟨l1, l2, rfl⟩ := List.append_of_mem hp
        have hap : ∀ j, j ∈ l1 → apartB ops j i = true := fun j hj => by
          have := (List.pairwise_append.1 (by simpa using hO.ap : (l1 ++ i :: l2).Pairwise _)).2.2 j hj i (List.mem_cons_self ..)
          rcases this with h3 | h3
          · rw [hd j (by simp [hj])] at h3; cases h3
          · exact h3
        obtain ⟨v, hy, hk⟩ := PW.front hE.sel hio l2 l1 a hap h
        have hI' : Inv ops listed (l1 ++ i :: (l2 ++ τ)) := by simpa using hI
        refine hy.wpOp hio (calmB hE fuel _ _ _ (l1 ++ l2) τ (by simpa using hI'.step hE (by simpa using hO.nodup) hi) (hO.sub (List.Sublist.refl _) (List.Sublist.refl _) (List.Sublist.refl _) (by simp) (List.Sublist.refl _)) hc (by simp at hf ⊢; omega) hk)
      · obtain ⟨τ', rfl⟩ := chain_head hc hp (fun j hj => hd j (by simp [hj]))
        have hap : ∀ j, j ∈ lp → apartB ops j i = true := fun j hj => by
          rcases hO.apT j (by simpa using hj) i (List.mem_cons_self ..) with h3 | h3
          · rw [hd j (by simp [hj])] at h3; cases h3
          · exact h3
        have h1 := PW.push (K := wpOps P ops (only Q) τ') hE.sel hio lp a hap (PW.mono (fun a3 h3 => by rw [wpOps_cons] at h3; exact h3) h)
        exact wpOp_mono (fun a' w' h2 => calmB hE fuel _ a' w' lp τ' (hI.step hE (by simpa using hO.nodup) hi) (hO.sub (List.Sublist.refl _) (List.Sublist.refl _) (List.Sublist.refl _) (List.Sublist.refl _) (List.sublist_cons_self ..)) (chain_tail hc) (by simp at hf ⊢; omega) h2) h1
/-- the first phase -/
theorem calmA (hE : Edg ops) (hCI : ∀ w, I w → C w) (hCD : ∀ w, D w → C w) (hIx : ∀ w w', I w → Ext w w' → I w') (hDx : ∀ w w', D w → Ext w w' → D w')
    (np : List Nat) (hnp : ∀ j, j ∈ np → j < ops.size) (τ : List Nat) (hcov : ∀ t, τ.head? = some t → cov ops t np = true) : ∀ (fuel : Nat) (listed : Array Bool) (a : Act) (w : World) (F : Facts) (B : Blks) (lw lq lm lp : List Nat),
    Inv ops listed (lq ++ lm ++ lw ++ lp ++ τ) → Ordr ops lq lm lw lp τ → chain ops τ = true → (∀ j, j ∈ lq ++ lm ++ lw → j ∈ np) → fuel = (lq ++ lm ++ lw ++ lp ++ τ).length →
    lw.length ≤ 1 → (lw ≠ [] → I w) → (lw = [] → D w) → n0 ≤ w.heap.size → F w → (∀ w w', F w → Ext w w' → F w') → (∀ w w', F w → Mv w w' → F w') → (∀ b, B b → b < w.heap.size) → OA P ops C n0 Mv I D (only Q) lw lq lm lp τ a F B → wpAny P .any ops (only Q) fuel listed a w
  | 0, listed, a, w, F, B, lw, lq, lm, lp, hI, hO, hc, hn, hf, hw1, hwI, hwD, hn0, hF, hFs, hFm, hB, h => by
    have h0 : lq ++ lm ++ lw ++ lp ++ τ = [] := List.eq_nil_of_length_eq_zero hf.symm
    simp only [List.append_eq_nil_iff] at h0
    obtain ⟨⟨⟨⟨rfl, rfl⟩, rfl⟩, rfl⟩, rfl⟩ := h0
    exact calmB hE 0 listed a w [] [] hI hO hc rfl (OA.tail h (hwD rfl) hF)
  | fuel + 1, listed, a, w, F, B, lw, lq, lm, lp, hI, hO, hc, hn, hf, hw1, hwI, hwD, hn0, hF, hFs, hFm, hB, h => by
    have hCw : C w := by
      by_cases hl : lw = []
      · exact hCD w (hwD hl)
      · exact hCI w (hwI hl)
    refine ⟨fun h0 => ?_, fun i hi => ?_⟩
    · exfalso
      cases hl : lq ++ lm ++ lw ++ lp ++ τ with
      | nil => rw [hl] at hf; cases hf
      | cons x l =>
        rw [hl] at hI
        have := head_ready hI hE (by rw [← hl]; exact hO.fwd) (hO.irr x (by rw [hl]; exact List.mem_cons_self ..)) (hO.lt x (by rw [hl]; exact List.mem_cons_self ..))
        rw [h0] at this; cases this
    · obtain ⟨hlt, hp, hd⟩ := (ready_spec hI hE).1 hi
      have hio : ops[i]? = some ops[i] := by simp [hlt]
      -- whatever is pending and ahead of i is apart from it
      have hapS : ∀ l1 l2, lq ++ lm ++ lw ++ lp = l1 ++ i :: l2 → ∀ j, j ∈ l1 → apartB ops j i = true := fun l1 l2 he j hj => by
        have h2 := hO.ap
        rw [he] at h2
        rcases (List.pairwise_append.1 h2).2.2 j hj i (List.mem_cons_self ..) with h3 | h3
        · have : j ∈ lq ++ lm ++ lw ++ lp ++ τ := by rw [he]; simp [hj]
          rw [hd j this] at h3; cases h3
        · exact h3
      have hwI' : ∀ w', Ext w w' → lw ≠ [] → I w' := fun w' hx hl => hIx w w' (hwI hl) hx
      have hwD' : ∀ w', Ext w w' → lw = [] → D w' := fun w' hx hl => hDx w w' (hwD hl) hx
      rcases List.mem_append.1 hp with hp | hp
      · rcases List.mem_append.1 hp with hp | hp
        · rcases List.mem_append.1 hp with hp | hp
          · rcases List.mem_append.1 hp with hp | hp
            · -- a quiet one
              obtain ⟨l1, l2, rfl⟩ := List.append_of_mem hp
              obtain ⟨v, hg, hk⟩ := OA.quiet hE.sel hio (hapS l1 (l2 ++ lm ++ lw ++ lp) (by simp)) h
              have hI' : Inv ops listed (l1 ++ i :: (l2 ++ lm ++ lw ++ lp ++ τ)) := by simpa using hI
              refine wp_of_gv hio hg hCw fun w' hx => ?_
              exact calmA hE hCI hCD hIx hDx np hnp τ hcov fuel _ _ _ F B lw (l1 ++ l2) lm lp (by simpa using hI'.step hE (by simpa using hO.nodup) hi) (hO.sub (by simp) (List.Sublist.refl _) (List.Sublist.refl _) (List.Sublist.refl _) (List.Sublist.refl _)) hc
                (fun j hj => hn j (by simp at hj ⊢; rcases hj with hj | hj | hj | hj <;> simp [hj])) (by simp at hf ⊢; omega) hw1 (hwI' w' hx) (hwD' w' hx) (Nat.le_trans hn0 hx.size) (hFs _ _ hF hx) hFs hFm (fun b hb => Nat.lt_of_lt_of_le (hB b hb) hx.size) hk
            · -- a maker
              obtain ⟨l1, l2, rfl⟩ := List.append_of_mem hp
              have hq1 := hapS (lq ++ l1) (l2 ++ lw ++ lp) (by simp)
              obtain ⟨Φ, hg, hk⟩ := OA.maker hE.sel hio (fun j hj => hq1 j (by simp [hj])) (fun j hj => hO.apW i (by simp) j hj) (fun j hj => by
                rcases List.mem_append.1 hj with hj | hj
                · exact .inl (hq1 j (by simp [hj]))
                · exact .inr ((List.pairwise_cons.1 (List.pairwise_append.1 hO.apM).2.1).1 j hj)) (fun j hj => hq1 j (by simp [hj])) h
              have hI' : Inv ops listed ((lq ++ l1) ++ i :: (l2 ++ lw ++ lp ++ τ)) := by simpa using hI
              refine wp_of_mk hio hg hCw fun u w' hx hΦ hb => ?_
              obtain ⟨hst, hsm⟩ : Stable Φ ∧ StableM n0 Mv Φ := by obtain ⟨_, _, _, hst, hsm, _⟩ := hg; exact ⟨hst, hsm⟩
              have hfr : ∀ b, u.blk = some b → n0 ≤ b ∧ ¬ B b := fun b h1 => ⟨Nat.le_trans hn0 (hb b h1).1, fun h2 => by have := hB b h2; have := (hb b h1).1; omega⟩
              exact calmA hE hCI hCD hIx hDx np hnp τ hcov fuel _ _ _ _ _ lw lq (l1 ++ l2) lp (by simpa using hI'.step hE (by simpa using hO.nodup) hi) (hO.sub (List.Sublist.refl _) (by simp) (List.Sublist.refl _) (List.Sublist.refl _) (List.Sublist.refl _)) hc
                (fun j hj => hn j (by simp at hj ⊢; rcases hj with hj | hj | hj | hj <;> simp [hj])) (by simp at hf ⊢; omega) hw1 (hwI' w' hx) (hwD' w' hx) (Nat.le_trans hn0 hx.size) ⟨hFs _ _ hF hx, hΦ⟩
                (fun w1 w2 h1 h2 => ⟨hFs _ _ h1.1 h2, hst _ _ _ h1.2 h2⟩) (fun w1 w2 h1 h2 => ⟨hFm _ _ h1.1 h2, hsm _ _ _ h1.2 (fun b hb => (hfr b hb).1) h2⟩) (fun b h1 => by
                  rcases h1 with h1 | h1
                  · exact Nat.lt_of_lt_of_le (hB b h1) hx.size
                  · exact (hb b h1).2) (hk u hfr)
          · -- the writer
            obtain rfl : lw = [i] := by
              match lw, hw1, hp with
              | [x], _, hp => rw [List.mem_singleton.1 hp]
            have hq1 := hapS (lq ++ lm) lp (by simp)
            obtain ⟨hwo, hk⟩ := OA.writer hE.sel hio (fun j hj => hq1 j (by simp [hj])) h
            obtain ⟨o', ho', hdst, hwant, hrun⟩ := hwo i (List.mem_singleton.2 rfl)
            obtain rfl : ops[i] = o' := Option.some.inj (hio.symm.trans ho')
            obtain ⟨w', hr, hD', hM, hsz⟩ := hrun w (hwI (by simp))
            have hI' : Inv ops listed ((lq ++ lm) ++ i :: (lp ++ τ)) := by simpa using hI
            refine wpOp_at hio ?_
            rw [if_pos hwant]
            unfold Oper.wp
            rw [hr]
            simp only [Oper.upon, hdst, Act.put]
            exact calmA hE hCI hCD hIx hDx np hnp τ hcov fuel _ _ _ F B [] lq lm lp (by simpa using hI'.step hE (by simpa using hO.nodup) hi) (hO.sub (List.Sublist.refl _) (List.Sublist.refl _) (List.nil_sublist _) (List.Sublist.refl _) (List.Sublist.refl _)) hc
              (fun j hj => hn j (by simp at hj ⊢; rcases hj with hj | hj <;> simp [hj])) (by simp at hf ⊢; omega) (by simp) (fun h => absurd rfl h) (fun _ => hD') (Nat.le_trans hn0 hsz) (hFm _ _ hF hM) hFs hFm (fun b hb => Nat.lt_of_lt_of_le (hB b hb) hsz) hk
        · -- a pure one
          obtain ⟨l1, l2, rfl⟩ := List.append_of_mem hp
          have hq1 := hapS (lq ++ lm ++ lw ++ l1) l2 (by simp)
          obtain ⟨v, hy, hk⟩ := OA.pure hE.sel hio (fun j hj => hq1 j (by simp [hj])) (fun j hj => hO.apW i (by simp) j hj) (fun j hj => hq1 j (by simp [hj])) (fun j hj => hq1 j (by simp [hj])) h
          have hI' : Inv ops listed ((lq ++ lm ++ lw ++ l1) ++ i :: (l2 ++ τ)) := by simpa using hI
          refine hy.wpOp hio ?_
          exact calmA hE hCI hCD hIx hDx np hnp τ hcov fuel _ _ _ F B lw lq lm (l1 ++ l2) (by simpa using hI'.step hE (by simpa using hO.nodup) hi) (hO.sub (List.Sublist.refl _) (List.Sublist.refl _) (List.Sublist.refl _) (by simp) (List.Sublist.refl _)) hc hn (by simp at hf ⊢; omega) hw1 hwI hwD hn0 hF hFs hFm hB hk
      · -- the tail's first
        obtain ⟨τ', hτ⟩ := chain_head hc hp (fun j hj => hd j (by simp [hj]))
        have hcl := cov_listed hI hE hi hnp (hcov i (by rw [hτ]; rfl))
        obtain rfl : lq = [] := List.eq_nil_iff_forall_not_mem.2 fun j hj => hcl j (hn j (by simp [hj])) (by simp [hj])
        obtain rfl : lm = [] := List.eq_nil_iff_forall_not_mem.2 fun j hj => hcl j (hn j (by simp [hj])) (by simp [hj])
        obtain rfl : lw = [] := List.eq_nil_iff_forall_not_mem.2 fun j hj => hcl j (hn j (by simp [hj])) (by simp [hj])
        have := calmB (P := P) (Q := Q) hE (fuel + 1) listed a w lp τ hI hO hc (by simpa using hf) (OA.tail h (hwD rfl) hF)
        exact this.2 i hi
end
end Go
