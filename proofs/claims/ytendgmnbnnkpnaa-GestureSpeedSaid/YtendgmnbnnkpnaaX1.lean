/- A region that draws its order: reads, quiet calls and makers of new blocks in whatever order, then a tail in a forced order: ONE walk serves every order. -/
import Derived.Test.YtendgmnbnnkpnaaX0
import Derived.Orders
namespace Go
/-- the block that a new value leads to -/
def Value.blk : Value → Option Nat
  | .pointer (some a) => some a.block
  | .slice (some a) _ _ => some a.block
  | _ => none
/-- operations that hand back a value and never enter a function -/
def Op.plainly : Op → Bool
  | .move _ | .assign _ | .pick .. | .alloc _ | .box .. | .build .. | .buildSlice .. | .load .. | .binOp .. | .unOp .. | .convert .. | .slice .. | .fieldAddr .. | .field .. | .indexAddr .. | .index .. | .extract .. | .makeInterface .. | .makeSlice .. => true
  | _ => false
theorem run_value_only {P : Program} {w w' : World} {α : Type} (f : α → Value) (s : Sem α) {n : Next} (h : (Sem.bind s fun x => Sem.pure (Next.value (f x))).run P w = .ok n w') : ∃ u, n = .value u := by
  have key : ∀ (s : Sem α) (w : World), (Sem.bind s fun x => Sem.pure (Next.value (f x))).run P w = .ok n w' → ∃ u, n = .value u := by
    intro s
    induction s with
    | pure a => intro w h; simp only [Sem.bind, Sem.run, Result.ok.injEq] at h; exact ⟨f a, h.1.symm⟩
    | load m a k ih => intro w h; simp only [Sem.bind, Sem.run] at h; split at h <;> first | exact ih _ _ h | (split at h <;> first | exact ih _ _ h | cases h)
    | store m a v k ih =>
      intro w h
      cases v <;> simp only [Sem.bind, Sem.run] at h <;> first | (cases h; done) | (split at h <;> first | exact ih _ h | (split at h <;> first | exact ih _ h | cases h))
    | new o k ih => intro w h; simp only [Sem.bind, Sem.run] at h; exact ih _ _ h
    | shape r k ih => intro w h; simp only [Sem.bind, Sem.run] at h; exact ih _ _ h
    | freeze a n k ih => intro w h; simp only [Sem.bind, Sem.run] at h; exact ih _ h
    | frozen a k ih => intro w h; simp only [Sem.bind, Sem.run] at h; exact ih _ _ h
    | getObj r k ih => intro w h; simp only [Sem.bind, Sem.run] at h; split at h <;> first | exact ih _ _ h | cases h
    | setObj r o k ih => intro w h; simp only [Sem.bind, Sem.run] at h; split at h <;> first | exact ih _ h | cases h
    | choose q k ih => intro w h; simp only [Sem.bind, Sem.run] at h; split at h <;> exact ih _ _ h
    | sys c k ih => intro w h; simp only [Sem.bind, Sem.run] at h; exact ih _ _ h
    | program k ih => intro w h; simp only [Sem.bind, Sem.run] at h; exact ih _ _ h
    | mark m k ih => intro w h; simp only [Sem.bind, Sem.run] at h; exact ih _ h
    | halt x => intro w h; simp only [Sem.bind, Sem.run] at h; cases h
  exact key s w h
theorem plainly_value {P : Program} {ρ : Operand → Value} {o : Oper} {w w' : World} {n : Next} (hp : o.op.plainly = true) (h : (execOp ρ o).run P w = .ok n w') : ∃ u, n = .value u := by
  unfold execOp at h
  cases hop : o.op <;> simp only [hop, Op.plainly] at hp h <;> first
    | (cases hp; done)
    | exact run_value_only id _ h
    | exact run_value_only _ _ h
    | (simp only [pure, Sem.run, Result.ok.injEq] at h; exact ⟨_, h.1.symm⟩)

section
variable {P : Program} {ops : Array Oper} {C : World → Prop} {n0 : Nat} {Mv : World → World → Prop} {D : World → Prop} {Q : Exit → Act → World → Prop}
abbrev Facts := World → Prop
abbrev Blks := Nat → Prop
/-- what a fact must be: it survives new blocks and draws -/
def Stable (Φ : Value → Facts) : Prop := ∀ u w w', Φ u w → Ext w w' → Φ u w'
/-- .. and the writer's move -/
def StableM (n0 : Nat) (Mv : World → World → Prop) (Φ : Value → Facts) : Prop := ∀ u w w', Φ u w → (∀ b, u.blk = some b → n0 ≤ b) → Mv w w' → Φ u w'
/-- a maker: some value, new blocks -/
def Oper.makesUpon (P : Program) (w : World) (Φ : Value → Facts) : Result Next → Prop
  | .ok (.value u) w' => Ext w w' ∧ Φ u w' ∧ ∀ b, u.blk = some b → w.heap.size ≤ b ∧ b < w'.heap.size
  | .ok (.enter f args) w' => w' = w ∧ Calls P f args w (fun e w'' => ∃ u, e = .returned u ∧ Ext w w'' ∧ Φ u w'' ∧ ∀ b, u.blk = some b → w.heap.size ≤ b ∧ b < w''.heap.size)
  | _ => False
def Oper.makes (P : Program) (o : Oper) (a : Act) (C : World → Prop) (Φ : Value → Facts) : Prop := ∀ w, C w → Oper.makesUpon P w Φ ((execOp a.eval o).run P w)
/-- it yields this very value in every such world, and leaves new blocks at most -/
def Oper.givesUpon (P : Program) (w : World) (v : Value) : Result Next → Prop
  | .ok (.value u) w' => w' = w ∧ u = v
  | .ok (.enter f args) w' => w' = w ∧ Calls P f args w (fun e w'' => e = .returned v ∧ Ext w w'')
  | _ => False
def Oper.gives (P : Program) (o : Oper) (a : Act) (C : World → Prop) (v : Value) : Prop := ∀ w, C w → Oper.givesUpon P w v ((execOp a.eval o).run P w)
def Gv (P : Program) (ops : Array Oper) (C : World → Prop) (o : Oper) (a : Act) (v : Value) : Prop :=
  (Region.wanted o (yielded ops a.tmps) = false ∧ v = undef) ∨ (Region.wanted o (yielded ops a.tmps) = true ∧ o.gives P a C v)
theorem Gv.put {o x : Oper} {a : Act} {v u : Value} (hs : ∀ cs b, o.op ≠ .select cs b) (h : ∀ d, x.dst = some d → d ∉ o.looksAt ops) : Gv P ops C o (a.put x.dst u) v ↔ Gv P ops C o a v := by
  unfold Gv Oper.gives; rw [execOp_put (ops := ops) o hs a x.dst u h, wanted_put o a x.dst u h]
/-- the quiet operations, in a row -/
def QW (P : Program) (ops : Array Oper) (C : World → Prop) (R : Act → Prop) : List Nat → Act → Prop
  | [], a => R a
  | i :: l, a => ∃ o, ops[i]? = some o ∧ ∃ v, Gv P ops C o a v ∧ QW P ops C R l (a.put o.dst v)
def Mk (P : Program) (ops : Array Oper) (C : World → Prop) (n0 : Nat) (Mv : World → World → Prop) (a : Act) (p : Nat × (Value → Facts)) : Prop :=
  ∃ o, ops[p.1]? = some o ∧ Region.wanted o (yielded ops a.tmps) = true ∧ Stable p.2 ∧ StableM n0 Mv p.2 ∧ o.makes P a C p.2
/-- behind the makers, whatever they made -/
def MU (ops : Array Oper) (n0 : Nat) (T : Act → Facts → Prop) : List (Nat × (Value → Facts)) → Act → Facts → Blks → Prop
  | [], a, F, _ => T a F
  | p :: M, a, F, B => ∀ u, (∀ b, u.blk = some b → n0 ≤ b ∧ ¬ B b) → MU ops n0 T M (a.put ((ops[p.1]?).bind (·.dst)) u) (fun w => F w ∧ p.2 u w) (fun b => B b ∨ u.blk = some b)
/-- the late pure ones -/
def PW (P : Program) (ops : Array Oper) (R : Act → Prop) : List Nat → Act → Prop
  | [], a => R a
  | i :: l, a => ∃ o, ops[i]? = some o ∧ ∃ v, Yields P ops o v a ∧ PW P ops R l (a.put o.dst v)
def dep (ops : Array Oper) (i j : Nat) : Bool := ((ops[i]?).map fun o => o.after.any fun e => Region.binds .any e && e.on == j).getD false
def apartB (ops : Array Oper) (i j : Nat) : Bool := match ops[i]?, ops[j]? with
  | some x, some y => x.apart ops y
  | _, _ => false
theorem apartB_spec {i j : Nat} {x y : Oper} (hi : ops[i]? = some x) (hj : ops[j]? = some y) (h : apartB ops i j = true) : x.apart ops y = true := by
  simpa [apartB, hi, hj] using h
def NoSel (ops : Array Oper) : Prop := ∀ (j : Nat) (o : Oper) cs b, ops[j]? = some o → o.op ≠ .select cs b

theorem QW.mono {R R' : Act → Prop} (h : ∀ a, R a → R' a) : ∀ {l : List Nat} {a : Act}, QW P ops C R l a → QW P ops C R' l a
  | [], _, hh => h _ hh
  | _ :: _, _, ⟨o, ho, v, hg, hh⟩ => ⟨o, ho, v, hg, QW.mono h hh⟩
theorem QW.front (hs : NoSel ops) {R : Act → Prop} {i : Nat} {oi : Oper} (hi : ops[i]? = some oi) (l2 : List Nat) : ∀ (l1 : List Nat) (a : Act), (∀ j, j ∈ l1 → apartB ops j i = true) →
    QW P ops C R (l1 ++ i :: l2) a → ∃ v, Gv P ops C oi a v ∧ QW P ops C R (l1 ++ l2) (a.put oi.dst v)
  | [], a, _, ⟨o, ho, v, hg, hh⟩ => by
    obtain rfl : oi = o := Option.some.inj (hi.symm.trans ho)
    exact ⟨v, hg, hh⟩
  | j :: l1, a, hap, ⟨o, ho, v, hg, hh⟩ => by
    obtain ⟨v', hg', hh'⟩ := QW.front hs hi l2 l1 _ (fun k hk => hap k (List.mem_cons_of_mem _ hk)) hh
    obtain ⟨a1, a2, a3⟩ := Oper.apart_spec (apartB_spec ho hi (hap j (List.mem_cons_self ..)))
    exact ⟨v', (Gv.put (fun cs b => hs i oi cs b hi) a1).1 hg', o, ho, v, (Gv.put (fun cs b => hs j o cs b ho) a3).2 hg, by rw [← Act.put_comm a v v' a2]; exact hh'⟩
/-- an operation that is apart from all the quiet ones may be put first -/
theorem QW.putFirst (hs : NoSel ops) {R : Act → Prop} {i : Nat} {oi : Oper} (hi : ops[i]? = some oi) (u : Value) : ∀ (l : List Nat) (a : Act), (∀ j, j ∈ l → apartB ops j i = true) →
    QW P ops C (fun a' => R (a'.put oi.dst u)) l a → QW P ops C R l (a.put oi.dst u)
  | [], _, _, h => h
  | j :: l, a, hap, ⟨o, ho, v, hg, hh⟩ => by
    obtain ⟨a1, a2, a3⟩ := Oper.apart_spec (apartB_spec ho hi (hap j (List.mem_cons_self ..)))
    refine ⟨o, ho, v, (Gv.put (fun cs b => hs j o cs b ho) a3).2 hg, ?_⟩
    rw [← Act.put_comm a v u a2]
    exact QW.putFirst hs hi u l _ (fun k hk => hap k (List.mem_cons_of_mem _ hk)) hh
/-- what is known of an operation behind the quiet ones, which are apart from it, and what goes on from it -/
theorem QW.pull (hs : NoSel ops) {i : Nat} {oi : Oper} (hi : ops[i]? = some oi) {α : Type} {X : Act → α → Prop} {Y : Act → α → Prop}
    (hX : ∀ (a : Act) (x : Oper) (u : Value) (k : α), (∀ d, x.dst = some d → d ∉ oi.looksAt ops) → X (a.put x.dst u) k → X a k) : ∀ (l : List Nat) (a : Act), (∀ j, j ∈ l → apartB ops j i = true) →
    QW P ops C (fun a' => ∃ k, X a' k ∧ Y a' k) l a → ∃ k, X a k ∧ QW P ops C (fun a' => Y a' k) l a
  | [], _, _, h => h
  | j :: l, a, hap, ⟨o, ho, v, hg, hh⟩ => by
    obtain ⟨a1, a2, a3⟩ := Oper.apart_spec (apartB_spec ho hi (hap j (List.mem_cons_self ..)))
    obtain ⟨k, hx, hy⟩ := QW.pull hs hi hX l _ (fun k hk => hap k (List.mem_cons_of_mem _ hk)) hh
    exact ⟨k, hX _ _ _ _ a1 hx, o, ho, v, hg, hy⟩
theorem PW.front (hs : NoSel ops) {R : Act → Prop} {i : Nat} {oi : Oper} (hi : ops[i]? = some oi) (l2 : List Nat) : ∀ (l1 : List Nat) (a : Act), (∀ j, j ∈ l1 → apartB ops j i = true) →
    PW P ops R (l1 ++ i :: l2) a → ∃ v, Yields P ops oi v a ∧ PW P ops R (l1 ++ l2) (a.put oi.dst v)
  | [], a, _, ⟨o, ho, v, hg, hh⟩ => by
    obtain rfl : oi = o := Option.some.inj (hi.symm.trans ho)
    exact ⟨v, hg, hh⟩
  | j :: l1, a, hap, ⟨o, ho, v, hg, hh⟩ => by
    obtain ⟨v', hg', hh'⟩ := PW.front hs hi l2 l1 _ (fun k hk => hap k (List.mem_cons_of_mem _ hk)) hh
    obtain ⟨a1, a2, a3⟩ := Oper.apart_spec (apartB_spec ho hi (hap j (List.mem_cons_self ..)))
    refine ⟨v', hg'.of_same (execOp_put oi (fun cs b => hs i oi cs b hi) a o.dst v a1).symm (wanted_put oi a o.dst v a1).symm, o, ho, v, hg.of_same (execOp_put o (fun cs b => hs j o cs b ho) a oi.dst v' a3) (wanted_put o a oi.dst v' a3), ?_⟩
    rw [← Act.put_comm a v v' a2]; exact hh'
theorem PW.mono {R R' : Act → Prop} (h : ∀ a, R a → R' a) : ∀ {l : List Nat} {a : Act}, PW P ops R l a → PW P ops R' l a
  | [], _, hh => h _ hh
  | _ :: _, _, ⟨o, ho, v, hg, hh⟩ => ⟨o, ho, v, hg, PW.mono h hh⟩
theorem Yields.inj {o : Oper} {v v' : Value} {a : Act} (h : Yields P ops o v a) (h' : Yields P ops o v' a) : v = v' := by
  rcases h with ⟨h1, h2⟩ | ⟨h1, h2⟩ <;> rcases h' with ⟨k1, k2⟩ | ⟨k1, k2⟩
  · have := (h2 default).symm.trans (k2 default)
    simpa using this
  · rw [h1] at k1; cases k1
  · rw [h1] at k1; cases k1
  · rw [h2, k2]
end
section
variable {P : Program} {ops : Array Oper} {C : World → Prop} {n0 : Nat} {Mv : World → World → Prop} {D : World → Prop} {Q : Exit → Act → World → Prop}
theorem Mk.put {a : Act} {p : Nat × (Value → Facts)} {o x : Oper} {u : Value} (hs : NoSel ops) (ho : ops[p.1]? = some o) (h : ∀ d, x.dst = some d → d ∉ o.looksAt ops) : Mk P ops C n0 Mv (a.put x.dst u) p ↔ Mk P ops C n0 Mv a p := by
  unfold Mk Oper.makes
  constructor
  all_goals
    rintro ⟨o', ho', h1, h2, h2', h3⟩
    obtain rfl : o = o' := Option.some.inj (ho.symm.trans ho')
    first
      | (rw [execOp_put (ops := ops) o (fun cs b => hs _ o cs b ho) a x.dst u h] at h3; rw [wanted_put o a x.dst u h] at h1; exact ⟨o, ho, h1, h2, h2', h3⟩)
      | (rw [← execOp_put (ops := ops) o (fun cs b => hs _ o cs b ho) a x.dst u h] at h3; rw [← wanted_put o a x.dst u h] at h1; exact ⟨o, ho, h1, h2, h2', h3⟩)
theorem MU.front {T : Act → Facts → Prop} {i : Nat} {oi : Oper} (hi : ops[i]? = some oi) (Φ : Value → Facts) (M2 : List (Nat × (Value → Facts))) : ∀ (M1 : List (Nat × (Value → Facts))) (a : Act) (F : Facts) (B : Blks),
    (∀ p, p ∈ M1 → apartB ops p.1 i = true) → MU ops n0 T (M1 ++ (i, Φ) :: M2) a F B →
    ∀ u, (∀ b, u.blk = some b → n0 ≤ b ∧ ¬ B b) → MU ops n0 T (M1 ++ M2) (a.put oi.dst u) (fun w => F w ∧ Φ u w) (fun b => B b ∨ u.blk = some b)
  | [], a, F, B, _, h => by
    intro u hu
    have := h u hu
    simpa [hi] using this
  | p :: M1, a, F, B, hap, h => by
    intro u hu up hup
    have hpi := hap p (List.mem_cons_self ..)
    obtain ⟨op, hop⟩ : ∃ op, ops[p.1]? = some op := by
      cases hp : ops[p.1]? with
      | none => simp [apartB, hp] at hpi
      | some x => exact ⟨x, rfl⟩
    obtain ⟨a1, a2, a3⟩ := Oper.apart_spec (apartB_spec hop hi hpi)
    have h1 := h up (fun b hb => ⟨(hup b hb).1, fun hB => (hup b hb).2 (.inl hB)⟩)
    have h2 := MU.front hi Φ M2 M1 _ _ _ (fun k hk => hap k (List.mem_cons_of_mem _ hk)) h1 u (fun b hb => ⟨(hu b hb).1, fun hB => by
      rcases hB with hB | hB
      · exact (hu b hb).2 hB
      · exact (hup b hB).2 (.inr hb)⟩)
    simp only [hop, Option.bind_some] at h2 ⊢
    rw [Act.put_comm a up u a2] at h2
    have e1 : (fun w => (F w ∧ p.2 up w) ∧ Φ u w) = (fun w => (F w ∧ Φ u w) ∧ p.2 up w) := by funext w; exact propext ⟨fun ⟨⟨x, y⟩, z⟩ => ⟨⟨x, z⟩, y⟩, fun ⟨⟨x, y⟩, z⟩ => ⟨⟨x, z⟩, y⟩⟩
    have e2 : (fun b => (B b ∨ up.blk = some b) ∨ u.blk = some b) = (fun b => (B b ∨ u.blk = some b) ∨ up.blk = some b) := by funext b; exact propext or_right_comm
    rw [e1, e2] at h2
    exact h2
theorem MU.mono {T T' : Act → Facts → Prop} (h : ∀ a F, T a F → T' a F) : ∀ {M : List (Nat × (Value → Facts))} {a : Act} {F : Facts} {B : Blks}, MU ops n0 T M a F B → MU ops n0 T' M a F B
  | [], _, _, _, hh => h _ _ hh
  | _ :: _, _, _, _, hh => fun u hu => MU.mono h (hh u hu)
/-- the makers and what follows -/
def MW (P : Program) (ops : Array Oper) (C : World → Prop) (n0 : Nat) (Mv : World → World → Prop) (T : Act → Facts → Prop) (lm : List Nat) (F : Facts) (B : Blks) (a : Act) : Prop :=
  ∃ M : List (Nat × (Value → Facts)), M.map Prod.fst = lm ∧ (∀ p, p ∈ M → Mk P ops C n0 Mv a p) ∧ MU ops n0 T M a F B
theorem MW.front (hs : NoSel ops) {T : Act → Facts → Prop} {i : Nat} {oi : Oper} (hi : ops[i]? = some oi) {m1 m2 : List Nat} {a : Act} {F : Facts} {B : Blks}
    (hap : ∀ j, j ∈ m1 ++ m2 → apartB ops j i = true ∨ apartB ops i j = true) (hap1 : ∀ j, j ∈ m1 → apartB ops j i = true) (h : MW P ops C n0 Mv T (m1 ++ i :: m2) F B a) :
    ∃ Φ, Mk P ops C n0 Mv a (i, Φ) ∧ ∀ u, (∀ b, u.blk = some b → n0 ≤ b ∧ ¬ B b) → MW P ops C n0 Mv T (m1 ++ m2) (fun w => F w ∧ Φ u w) (fun b => B b ∨ u.blk = some b) (a.put oi.dst u) := by
  obtain ⟨M, hM, hk, hu⟩ := h
  obtain ⟨M1, M', rfl, rfl, h2⟩ := List.map_eq_append_iff.1 hM
  obtain ⟨⟨i', Φ⟩, M2, rfl, rfl, rfl⟩ := List.map_eq_cons_iff.1 h2
  refine ⟨Φ, hk _ (by simp), fun u huf => ⟨M1 ++ M2, by simp, fun p hp => ?_, MU.front hi Φ M2 M1 a F B (fun p hp => hap1 p.1 (List.mem_map_of_mem hp)) hu u huf⟩⟩
  have hkp := hk p (by simp at hp ⊢; rcases hp with hp | hp <;> simp [hp])
  obtain ⟨op, hop, _⟩ := hkp
  refine (Mk.put hs hop ?_).2 (hk p (by simp at hp ⊢; rcases hp with hp | hp <;> simp [hp]))
  have hmem : p.1 ∈ M1.map Prod.fst ++ M2.map Prod.fst := by
    rw [← List.map_append]; exact List.mem_map_of_mem hp
  rcases hap p.1 hmem with h | h
  · exact (Oper.apart_spec (apartB_spec hop hi h)).2.2
  · exact (Oper.apart_spec (apartB_spec hi hop h)).1
/-- the late pure ones and the tail -/
def TO (P : Program) (ops : Array Oper) (D : World → Prop) (Q : Exit → Act → World → Prop) (lp τ : List Nat) (a : Act) (F : Facts) : Prop :=
  PW P ops (fun a3 => ∀ w, D w → F w → wpOps P ops Q τ a3 w) lp a
theorem MU.pure (hs : NoSel ops) {i : Nat} {oi : Oper} (hi : ops[i]? = some oi) {p1 p2 τ : List Nat} (hap1 : ∀ j, j ∈ p1 → apartB ops j i = true) : ∀ (M : List (Nat × (Value → Facts))) (a : Act) (F : Facts) (B : Blks),
    (∀ p, p ∈ M → apartB ops p.1 i = true) → MU ops n0 (TO P ops D Q (p1 ++ i :: p2) τ) M a F B →
    ∃ v, Yields P ops oi v a ∧ MU ops n0 (TO P ops D Q (p1 ++ p2) τ) M (a.put oi.dst v) F B
  | [], a, F, B, _, h => PW.front hs hi p2 p1 a hap1 h
  | p :: M, a, F, B, hap, h => by
    have hpi := hap p (List.mem_cons_self ..)
    obtain ⟨op, hop⟩ : ∃ op, ops[p.1]? = some op := by
      cases hp : ops[p.1]? with
      | none => simp [apartB, hp] at hpi
      | some x => exact ⟨x, rfl⟩
    obtain ⟨a1, a2, a3⟩ := Oper.apart_spec (apartB_spec hop hi hpi)
    have key : ∀ u v, Yields P ops oi v (a.put op.dst u) → Yields P ops oi v a := fun u v hy =>
      hy.of_same (execOp_put oi (fun cs b => hs i oi cs b hi) a op.dst u a1).symm (wanted_put oi a op.dst u a1).symm
    simp only [MU, hop, Option.bind_some] at h ⊢
    obtain ⟨v0, y0, _⟩ := MU.pure hs hi hap1 M _ _ _ (fun k hk => hap k (List.mem_cons_of_mem _ hk)) (h undef (fun b hb => by cases hb))
    refine ⟨v0, key _ _ y0, fun u hu => ?_⟩
    obtain ⟨v, y, hm⟩ := MU.pure hs hi hap1 M _ _ _ (fun k hk => hap k (List.mem_cons_of_mem _ hk)) (h u hu)
    obtain rfl := Yields.inj (key _ _ y) (key _ _ y0)
    rw [← Act.put_comm a u v a2]
    exact hm
theorem MW.pure (hs : NoSel ops) {i : Nat} {oi : Oper} (hi : ops[i]? = some oi) {lm p1 p2 τ : List Nat} {a : Act} {F : Facts} {B : Blks} (hap1 : ∀ j, j ∈ p1 → apartB ops j i = true) (hapm : ∀ j, j ∈ lm → apartB ops j i = true)
    (h : MW P ops C n0 Mv (TO P ops D Q (p1 ++ i :: p2) τ) lm F B a) : ∃ v, Yields P ops oi v a ∧ MW P ops C n0 Mv (TO P ops D Q (p1 ++ p2) τ) lm F B (a.put oi.dst v) := by
  obtain ⟨M, rfl, hk, hu⟩ := h
  obtain ⟨v, hy, hm⟩ := MU.pure hs hi hap1 M a F B (fun p hp => hapm p.1 (List.mem_map_of_mem hp)) hu
  refine ⟨v, hy, M, rfl, fun p hp => ?_, hm⟩
  obtain ⟨op, hop, _⟩ := hk p hp
  exact (Mk.put hs hop (Oper.apart_spec (apartB_spec hop hi (hapm p.1 (List.mem_map_of_mem hp)))).2.2).2 (hk p hp)
/-- what the writers do: one store that nothing else of the region reads -/
def WO (P : Program) (ops : Array Oper) (I D : World → Prop) (Mv : World → World → Prop) (lw : List Nat) (a : Act) : Prop :=
  ∀ j, j ∈ lw → ∃ o, ops[j]? = some o ∧ o.dst = none ∧ Region.wanted o (yielded ops a.tmps) = true ∧ ∀ w, I w → ∃ w', (execOp a.eval o).run P w = .ok .skip w' ∧ D w' ∧ Mv w w' ∧ w.heap.size ≤ w'.heap.size
theorem WO.put {I : World → Prop} (hs : NoSel ops) {j : Nat} {o x : Oper} {a : Act} {u : Value} (ho : ops[j]? = some o) (h : ∀ d, x.dst = some d → d ∉ o.looksAt ops) (hw : WO P ops I D Mv [j] (a.put x.dst u)) : WO P ops I D Mv [j] a := by
  intro k hk
  obtain rfl : k = j := by simpa using hk
  obtain ⟨o', ho', h0, h1, h2⟩ := hw k hk
  obtain rfl : o = o' := Option.some.inj (ho.symm.trans ho')
  rw [execOp_put (ops := ops) o (fun cs b => hs _ o cs b ho) a x.dst u h] at h2
  rw [wanted_put o a x.dst u h] at h1
  exact ⟨o, ho, h0, h1, h2⟩
/-- all that is owed ahead of the tail -/
def OA (P : Program) (ops : Array Oper) (C : World → Prop) (n0 : Nat) (Mv : World → World → Prop) (I D : World → Prop) (Q : Exit → Act → World → Prop) (lw lq lm lp τ : List Nat) (a : Act) (F : Facts) (B : Blks) : Prop :=
  QW P ops C (fun a' => WO P ops I D Mv lw a' ∧ MW P ops C n0 Mv (TO P ops D Q lp τ) lm F B a') lq a
theorem WO.put_all {I : World → Prop} (hs : NoSel ops) {x : Oper} {a : Act} {u : Value} {lw : List Nat} (h : ∀ j, j ∈ lw → ∀ o, ops[j]? = some o → ∀ d, x.dst = some d → d ∉ o.looksAt ops) (hw : WO P ops I D Mv lw a) : WO P ops I D Mv lw (a.put x.dst u) := by
  intro k hk
  obtain ⟨o, ho, h0, h1, h2⟩ := hw k hk
  rw [← execOp_put (ops := ops) o (fun cs b => hs _ o cs b ho) a x.dst u (h k hk o ho)] at h2
  rw [← wanted_put o a x.dst u (h k hk o ho)] at h1
  exact ⟨o, ho, h0, h1, h2⟩
theorem OA.maker {I : World → Prop} (hs : NoSel ops) {i : Nat} {oi : Oper} (hi : ops[i]? = some oi) {lw lq m1 m2 lp τ : List Nat} {a : Act} {F : Facts} {B : Blks}
    (hq : ∀ j, j ∈ lq → apartB ops j i = true) (hw : ∀ j, j ∈ lw → apartB ops i j = true) (hap : ∀ j, j ∈ m1 ++ m2 → apartB ops j i = true ∨ apartB ops i j = true) (hap1 : ∀ j, j ∈ m1 → apartB ops j i = true) (h : OA P ops C n0 Mv I D Q lw lq (m1 ++ i :: m2) lp τ a F B) :
    ∃ Φ, Mk P ops C n0 Mv a (i, Φ) ∧ ∀ u, (∀ b, u.blk = some b → n0 ≤ b ∧ ¬ B b) → OA P ops C n0 Mv I D Q lw lq (m1 ++ m2) lp τ (a.put oi.dst u) (fun w => F w ∧ Φ u w) (fun b => B b ∨ u.blk = some b) := by
  have h1 : QW P ops C (fun a' => ∃ Φ, Mk P ops C n0 Mv a' (i, Φ) ∧ ∀ u, (∀ b, u.blk = some b → n0 ≤ b ∧ ¬ B b) → WO P ops I D Mv lw (a'.put oi.dst u) ∧ MW P ops C n0 Mv (TO P ops D Q lp τ) (m1 ++ m2) (fun w => F w ∧ Φ u w) (fun b => B b ∨ u.blk = some b) (a'.put oi.dst u)) lq a :=
    QW.mono (fun a' ⟨h0, h'⟩ => let ⟨Φ, k1, k2⟩ := MW.front hs hi hap hap1 h'
      ⟨Φ, k1, fun u hu => ⟨WO.put_all hs (fun j hj o ho => (Oper.apart_spec (apartB_spec hi ho (hw j hj))).1) h0, k2 u hu⟩⟩) h
  obtain ⟨Φ, hx, hy⟩ := QW.pull hs hi (X := fun a' Φ => Mk P ops C n0 Mv a' (i, Φ)) (fun a x u k hd hk => (Mk.put hs hi hd).1 hk) lq a hq h1
  exact ⟨Φ, hx, fun u hu => QW.putFirst hs hi u lq a hq (QW.mono (fun a' h' => h' u hu) hy)⟩
theorem OA.pure {I : World → Prop} (hs : NoSel ops) {i : Nat} {oi : Oper} (hi : ops[i]? = some oi) {lw lq lm p1 p2 τ : List Nat} {a : Act} {F : Facts} {B : Blks}
    (hq : ∀ j, j ∈ lq → apartB ops j i = true) (hw : ∀ j, j ∈ lw → apartB ops i j = true) (hapm : ∀ j, j ∈ lm → apartB ops j i = true) (hap1 : ∀ j, j ∈ p1 → apartB ops j i = true) (h : OA P ops C n0 Mv I D Q lw lq lm (p1 ++ i :: p2) τ a F B) :
    ∃ v, Yields P ops oi v a ∧ OA P ops C n0 Mv I D Q lw lq lm (p1 ++ p2) τ (a.put oi.dst v) F B := by
  have h1 : QW P ops C (fun a' => ∃ v, Yields P ops oi v a' ∧ (WO P ops I D Mv lw (a'.put oi.dst v) ∧ MW P ops C n0 Mv (TO P ops D Q (p1 ++ p2) τ) lm F B (a'.put oi.dst v))) lq a :=
    QW.mono (fun a' ⟨h0, h'⟩ => let ⟨v, k1, k2⟩ := MW.pure hs hi hap1 hapm h'
      ⟨v, k1, WO.put_all hs (fun j hj o ho => (Oper.apart_spec (apartB_spec hi ho (hw j hj))).1) h0, k2⟩) h
  obtain ⟨v, hx, hy⟩ := QW.pull hs hi (X := fun a' v => Yields P ops oi v a') (fun a x u k hd hk => hk.of_same (execOp_put oi (fun cs b => hs i oi cs b hi) a x.dst u hd).symm (wanted_put oi a x.dst u hd).symm) lq a hq h1
  exact ⟨v, hx, QW.putFirst hs hi v lq a hq hy⟩
theorem OA.quiet {I : World → Prop} (hs : NoSel ops) {i : Nat} {oi : Oper} (hi : ops[i]? = some oi) {lw q1 q2 lm lp τ : List Nat} {a : Act} {F : Facts} {B : Blks}
    (hq : ∀ j, j ∈ q1 → apartB ops j i = true) (h : OA P ops C n0 Mv I D Q lw (q1 ++ i :: q2) lm lp τ a F B) : ∃ v, Gv P ops C oi a v ∧ OA P ops C n0 Mv I D Q lw (q1 ++ q2) lm lp τ (a.put oi.dst v) F B :=
  QW.front hs hi q2 q1 a hq h
theorem OA.writer {I : World → Prop} (hs : NoSel ops) {i : Nat} {oi : Oper} (hi : ops[i]? = some oi) {lq lm lp τ : List Nat} {a : Act} {F : Facts} {B : Blks}
    (hq : ∀ j, j ∈ lq → apartB ops j i = true) (h : OA P ops C n0 Mv I D Q [i] lq lm lp τ a F B) : WO P ops I D Mv [i] a ∧ OA P ops C n0 Mv I D Q [] lq lm lp τ a F B := by
  have h1 : QW P ops C (fun a' => ∃ _ : Unit, WO P ops I D Mv [i] a' ∧ MW P ops C n0 Mv (TO P ops D Q lp τ) lm F B a') lq a := QW.mono (fun a' h' => ⟨(), h'⟩) h
  obtain ⟨_, hx, hy⟩ := QW.pull hs hi (X := fun a' (_ : Unit) => WO P ops I D Mv [i] a') (fun a x u k hd hk => WO.put hs hi hd hk) lq a hq h1
  exact ⟨hx, QW.mono (fun a' h' => ⟨(fun j hj => by cases hj), h'⟩) hy⟩
theorem OA.tail {I : World → Prop} {lp τ : List Nat} {a : Act} {F : Facts} {B : Blks} (h : OA P ops C n0 Mv I D Q [] [] [] lp τ a F B) {w : World} (hw : D w) (hF : F w) : PW P ops (fun a3 => wpOps P ops Q τ a3 w) lp a := by
  obtain ⟨_, M, hM, _, hu⟩ := h
  obtain rfl : M = [] := List.map_eq_nil_iff.1 hM
  exact PW.mono (fun a' h' => h' w hw hF) hu
end
end Go
