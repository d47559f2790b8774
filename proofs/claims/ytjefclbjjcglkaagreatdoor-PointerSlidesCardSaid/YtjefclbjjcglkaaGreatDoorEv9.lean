/- The evaluator: copy, clear; maps. -/
import Derived.Test.YtjefclbjjcglkaaGreatDoorEv8
set_option linter.unusedVariables false
set_option linter.unusedSimpArgs false
namespace Go.Ev
open Go
variable {R : Type} {P : Program} {E : Env} {tm : TM} {h : H} {K : AV → H → Option R} {r : R} {o : Oper}
theorem copy_s (hE : EOk P E) {c : Call} (ho : o.op = .call c) (hc : c.callee = .builtin .copy) {args : List AV} (hargs : ∀ φ a, Glob φ → On φ tm c.args.toList a → A2 (AR φ) args (c.args.toList.map a.eval))
    (h1 : bCopy E c.argTypes.toList args h K = some r) : OpAny P o tm h K r := by
  obtain ⟨s0, hs0, h1⟩ := ob_some h1
  obtain ⟨x0, hx0, h1⟩ := ob_some h1
  obtain ⟨d, rfl, h1⟩ := withC_spec (x := s0) (K := fun d => withC x0 fun x => ob (getL c.argTypes.toList 0) fun t => _) h1
  obtain ⟨x, rfl, h1⟩ := withC_spec (x := x0) h1
  obtain ⟨t, ht, h1⟩ := ob_some h1
  obtain ⟨e, te, ud, hte, h1⟩ := elemK_spec hE h1
  obtain ⟨m, xs, h1, hsrc⟩ := firstK_spec (P := P) h1
  rw [getL_eq] at hs0 hx0 ht
  have hT := hE.ty _ _ hte
  obtain ⟨inf, z', i1, i2, _⟩ := hT.info
  have T0 : c.argTypes[0]? = some t := by simpa using ht
  have hv : ∀ φ a, Glob φ → On φ tm o.op.operands.toList a → (∃ v, (c.args.map a.eval)[0]? = some v ∧ CR φ d v) ∧ ∃ u, (c.args.map a.eval)[1]? = some u ∧ CR φ x u := by
    intro φ a hg hn
    have hh := hargs φ a hg (hn.sub (call_sub ho hc))
    obtain ⟨v, q1, q2⟩ := hh.get hs0
    obtain ⟨u, q3, q4⟩ := hh.get hx0
    exact ⟨⟨v, by simpa using q1, q2⟩, ⟨u, by simpa using q3, q4⟩⟩
  have exec : ∀ (a : Act) (w w' : World) (y : Value), (Builtin.copy_ c.argTypes o.type (c.args.map a.eval)).run P w = .ok y w' → (execOp a.eval o).run P w = .ok (.value y) w' := by
    intro a w w' y hy
    obtain ⟨cs, e⟩ := call_builtin (P := P) ho hc a w
    rw [e]
    exact run_v hy
  -- the copy of k elements
  have run : ∀ (a : Act) (w w' : World) (base : Option Addr) (dl dc : Nat) (u : Value) (aa : Option Addr) (cc : Nat) (us : List Value), (c.args.map a.eval)[0]? = some (.slice base dl dc) → (c.args.map a.eval)[1]? = some u → u = .slice aa m cc → (Builtin.firstCells te.sz (Nat.min m dl) u).run P w = .ok us.toArray w →
      (match base with | none => w' = w | some b => (storeCells b us).run P w = .ok () w') → (Builtin.copy_ c.argTypes o.type (c.args.map a.eval)).run P w = .ok (.int .i64 (Nat.min m dl)) w' := by
    intro a w w' base dl dc u aa cc us q1 q3 hu hf hs
    subst hu
    cases base with
    | none =>
      simp only at hs
      subst hs
      simp [Builtin.copy_, T0, q1, q3, run_underlying ud, sizeOf, typeInfo, i1, i2, Builtin.lenOf, hf, goInt]
    | some b =>
      simp only at hs
      simp [Builtin.copy_, T0, q1, q3, run_underlying ud, sizeOf, typeInfo, i1, i2, Builtin.lenOf, hf, hs, goInt]
  have none_ : K (.c (.i .i64 (.ofNat 0))) h = some r → (∀ φ v, CR φ d v → ∃ b c, v = .slice b 0 c) → OpAny P o tm h K r := by
    intro h1 hd
    refine ⟨_, h, No, h1, Nat.le_refl _, fun _ hm => hm.elim, fun B φ a w hw hg hn hf => ?_⟩
    obtain ⟨⟨v, q1, q2⟩, u, q3, q4⟩ := hv φ a hg hn
    obtain ⟨b, cc, rfl⟩ := hd φ v q2
    obtain ⟨us, u1, u2, ⟨aa, c2, u3⟩, u4⟩ := hsrc B φ w u hw q4
    have f0 := u4 0 (Nat.zero_le _) w fun _ => rfl
    have hm0 : Nat.min m 0 = 0 := Nat.min_zero m
    have := run a w w b 0 cc u aa c2 [] q1 q3 u3 (by rw [hm0, f0]; simp) (by cases b <;> rfl)
    rw [hm0] at this
    exact ⟨_, _, exec a w w _ this, φ, .refl φ, fun _ _ => ⟨rfl, rfl⟩, hw, rfl⟩
  cases d with
  | nils => exact none_ h1 fun φ v q => ⟨none, 0, q⟩
  | emp => exact none_ h1 fun φ v q => q
  | sl n off len cap zz ex =>
    replace h1 : fN (bf (Nat.ble m len) m len) (fun c => takeK xs (Nat.mul c te.sz) fun m => hwrite h n off m fun h => K (.c (.i .i64 (.ofNat c))) h) = some r := h1
    rw [fN_eq] at h1
    have hmin : bf (Nat.ble m len) m len = Nat.min m len := by
      cases q : Nat.ble m len with
      | true => have := Nat.le_of_ble_eq_true q; rw [bf_true]; exact (Nat.min_eq_left this).symm
      | false =>
        rw [bf_false]
        have : ¬ m ≤ len := by
          intro hh
          have h2 : Nat.ble m len = true := by rw [Nat.ble_eq]; exact hh
          rw [h2] at q; cases q
        exact (Nat.min_eq_right (by omega)).symm
    rw [hmin] at h1
    obtain ⟨hle, h1⟩ := takeK_spec _ _ _ _ h1
    obtain ⟨h', h2, h3, h4⟩ := write_run (P := P) h1
    refine ⟨_, h', No, h2, by omega, fun _ hm => hm.elim, fun B φ a w hw hg hn hf => ?_⟩
    obtain ⟨⟨v, q1, b, f, S, c', p1, p2, p3, p4, p5⟩, u, q3, q4⟩ := hv φ a hg hn
    subst p2
    obtain ⟨us, u1, u2, ⟨aa, cc, u3⟩, u4⟩ := hsrc B φ w u hw q4
    obtain ⟨w', w1, w2⟩ := h4 B φ w hw _ (u1.take (Nat.mul (Nat.min m len) te.sz)) b f S p1
    have := run a w w' (some ⟨b, f + off, none⟩) len c' u aa cc _ q1 q3 u3 (u4 _ (Nat.min_le_left _ _) w fun _ => rfl) w1
    exact ⟨_, _, exec a w w' _ this, φ, .refl φ, fun _ _ => ⟨rfl, rfl⟩, w2, rfl⟩
  | _ => cases h1
theorem clear_s (hE : EOk P E) {c : Call} (ho : o.op = .call c) (hc : c.callee = .builtin .clear) {args : List AV} (hargs : ∀ φ a, Glob φ → On φ tm c.args.toList a → A2 (AR φ) args (c.args.toList.map a.eval))
    (h1 : bClear E c.argTypes.toList args h K = some r) : OpAny P o tm h K r := by
  obtain ⟨s0, hs0, h1⟩ := ob_some h1
  obtain ⟨d, rfl, h1⟩ := withC_spec (x := s0) (K := fun d => ob (getL c.argTypes.toList 0) fun t => _) h1
  obtain ⟨t, ht, h1⟩ := ob_some h1
  obtain ⟨e, te, ud, hte, h1⟩ := elemK_spec hE h1
  rw [getL_eq] at hs0 ht
  have hT := hE.ty _ _ hte
  obtain ⟨z, hz, hzs, hzc, _⟩ := hT.zero
  obtain ⟨inf, z', i1, i2, i3, i4, hzl, _⟩ := hT.info
  have T0 : c.argTypes[0]? = some t := by simpa using ht
  have hv : ∀ φ a, Glob φ → On φ tm o.op.operands.toList a → ∃ v, (c.args.map a.eval)[0]? = some v ∧ CR φ d v := by
    intro φ a hg hn
    obtain ⟨v, q1, q2⟩ := (hargs φ a hg (hn.sub (call_sub ho hc))).get hs0
    exact ⟨v, by simpa using q1, q2⟩
  have exec : ∀ (a : Act) (w w' : World) (y : Value), (Builtin.clear_ c.argTypes o.type (c.args.map a.eval)).run P w = .ok y w' → (execOp a.eval o).run P w = .ok (.value y) w' := by
    intro a w w' y hy
    obtain ⟨cs, e⟩ := call_builtin (P := P) ho hc a w
    rw [e]
    exact run_v hy
  have none_ : K (.tup []) h = some r → (∀ φ v, CR φ d v → ∃ b c, v = .slice b 0 c) → OpAny P o tm h K r := by
    intro h1 hd
    refine ⟨_, h, No, h1, Nat.le_refl _, fun _ hm => hm.elim, fun B φ a w hw hg hn hf => ?_⟩
    obtain ⟨v, q1, q2⟩ := hv φ a hg hn
    obtain ⟨b, cc, rfl⟩ := hd φ v q2
    refine ⟨_, _, exec a w w (.tuple #[]) ?_, φ, .refl φ, fun _ _ => ⟨rfl, rfl⟩, hw, [], rfl, .nil⟩
    cases b <;> simp [Builtin.clear_, T0, q1, run_underlying ud]
  cases d with
  | nils => exact none_ h1 fun φ v q => ⟨none, 0, q⟩
  | emp => exact none_ h1 fun φ v q => q
  | sl n off len cap zz ex =>
    replace h1 : (repK len te.z fun z => hwrite h n off z fun h => K (.tup []) h) = some r := h1
    rw [repK_eq] at h1
    obtain ⟨h', h2, h3, h4⟩ := write_run (P := P) h1
    refine ⟨_, h', No, h2, by omega, fun _ hm => hm.elim, fun B φ a w hw hg hn hf => ?_⟩
    obtain ⟨v, q1, b, f, S, c', p1, p2, p3, p4, p5⟩ := hv φ a hg hn
    subst p2
    obtain ⟨w', w1, w2⟩ := h4 B φ w hw _ (rep_A2 (hzc φ) len (len * te.sz) (by rw [hzl])) b f S p1
    refine ⟨_, _, exec a w w' (.tuple #[]) ?_, φ, .refl φ, fun _ _ => ⟨rfl, rfl⟩, w2, [], rfl, .nil⟩
    cases len with
    | zero =>
      have : w' = w := by simpa [storeCells] using w1.symm
      subst this
      simp [Builtin.clear_, T0, q1, run_underlying ud]
    | succ len =>
      have hzc' : Builtin.zeroCells z.cells (len + 1) = (Array.range ((len + 1) * te.sz)).map fun i => z.cells[i % z.cells.size]! := by unfold Builtin.zeroCells; rw [hzs]
      have w1' : (storeCells ⟨b, f + off, none⟩ (List.map (fun i => z.cells[i % z.cells.size]!) (List.range ((len + 1) * te.sz)))).run P w = .ok () w' := by simpa using w1
      simp [Builtin.clear_, T0, q1, run_underlying ud, hz, hzc', w1', Result.andThen]
  | _ => cases h1
/-! ### maps -/
theorem ba_eq {a b : ByteArray} (h : (a == b) = true) : a = b := by
  cases a; cases b
  rename_i x y
  have : (x == y) = true := h
  simpa using this
theorem ba_refl (a : ByteArray) : (a == a) = true := by
  cases a
  rename_i x
  show (x == x) = true
  simp
/-- the key's type fits the key -/
def KeyFit (d : TypeDesc) (k : CV) : Prop := (keyC k = 2 ∧ ∃ q, d = .int q) ∨ (keyC k = 7 ∧ d = .string)
theorem mapK_spec (hE : EOk P E) {t : TypeId} {k : CV} {K : TI → Option R} {r : R} (h1 : mapK E t k K = some r) : ∃ kt e te dk, P.underlying t = some (.map kt e) ∧ P.underlying kt = some dk ∧ KeyFit dk k ∧ T.get E.ty e = some te ∧ K te = some r := by
  obtain ⟨ti, ht, h1⟩ := ob_some h1
  obtain ⟨d, ud, kd⟩ := (hE.ty _ _ ht).und
  cases hq : ti.d with
  | map kt e =>
    rw [hq] at h1 kd
    cases kd
    obtain ⟨tk, htk, h1⟩ := ob_some (show ob (T.get E.ty kt) _ = some r from h1)
    obtain ⟨hk, h1⟩ := bf_some h1
    obtain ⟨te, hte, h1⟩ := ob_some h1
    obtain ⟨dk, udk, kdk⟩ := (hE.ty _ _ htk).und
    have hk : keyT tk.d = keyC k := Nat.eq_of_beq_eq_true hk
    refine ⟨kt, e, te, dk, ud, udk, ?_, hte, h1⟩
    cases hq2 : tk.d with
    | int q => rw [hq2] at hk kdk; exact .inl ⟨hk.symm, q, kdk⟩
    | str => rw [hq2] at hk kdk; exact .inr ⟨hk.symm, kdk⟩
    | _ => rw [hq2] at hk; cases k <;> cases hk
  | _ => rw [hq] at h1; cases h1
theorem sameKey_spec {x y : CV} {c : Bool} (h : sameKey x y = some c) {d : TypeDesc} (hd : KeyFit d x) {φ : Ph} {v u : Value} (hv : CR φ x v) (hu : CR φ y u) : Instr.sameNow d v u = some c ∧ (c = true → u = v) := by
  cases x with
  | i k a =>
    obtain ⟨k', b, rfl, h3⟩ := withI_spec (show withI y (fun k' b => bf (sameI k k') (some (eqI a b)) none) = some c from h)
    obtain ⟨h2, h4⟩ := bf_some h3
    obtain rfl := sameI_spec h2
    rw [eqI_eq] at h4
    cases h4
    cases hv; cases hu
    rcases hd with ⟨_, q, rfl⟩ | ⟨hh, _⟩
    · refine ⟨by simp [Instr.sameNow, Bool.beq_eq_decide_eq], fun hc => by simp at hc; rw [hc]⟩
    · cases hh
  | s a =>
    obtain ⟨b, rfl, h⟩ := withS_spec (show withS y (fun b => some (a == b)) = some c from h)
    cases h
    cases hv; cases hu
    rcases hd with ⟨hh, _⟩ | ⟨_, rfl⟩
    · cases hh
    · exact ⟨rfl, fun hc => by rw [ba_eq hc]⟩
  | _ => cases h
theorem findK_spec : ∀ {l : List ME} {k : CV} {K : Option ME → Option R} {r : R}, findK l k K = some r → ∃ res, K res = some r ∧ ∀ φ d v (es : List MapEntry) i, KeyFit d k → CR φ k v → A2 (MR φ) l es →
    (res = none ∧ Instr.findNow d v es i = some none) ∨ ∃ e m j, res = some e ∧ Instr.findNow d v es i = some (some (i + j, m.val)) ∧ es[j]? = some m ∧ MR φ e m ∧ m.key = v
  | [], k, K, r, h => ⟨none, h, fun φ d v es i hd hv hl => .inl ⟨rfl, by cases hl; rfl⟩⟩
  | e :: l, k, K, r, h => by
    obtain ⟨c, hc, h⟩ := ob_some (show ob (sameKey k e.k) _ = some r from h)
    cases c with
    | true =>
      refine ⟨some e, h, fun φ d v es i hd hv hl => .inr ?_⟩
      cases hl with
      | cons hm ht =>
        rename_i m es
        obtain ⟨q1, q2⟩ := sameKey_spec hc hd hv hm.k
        exact ⟨e, m, 0, rfl, by unfold Instr.findNow; rw [q1]; rfl, rfl, hm, q2 rfl⟩
    | false =>
      obtain ⟨res, h1, h2⟩ := findK_spec (show findK l k K = some r from h)
      refine ⟨res, h1, fun φ d v es i hd hv hl => ?_⟩
      cases hl with
      | cons hm ht =>
        rename_i m es
        obtain ⟨q1, q2⟩ := sameKey_spec hc hd hv hm.k
        have e1 : Instr.findNow d v (m :: es) i = Instr.findNow d v es (i + 1) := by
          show (match Instr.sameNow d v m.key with | some true => _ | some false => _ | none => _) = _
          rw [q1]
        rw [e1]
        rcases h2 φ d v es (i + 1) hd hv ht with ⟨r1, r2⟩ | ⟨e', m', j, r1, r2, r3, r4, r5⟩
        · exact .inl ⟨r1, r2⟩
        · exact .inr ⟨e', m', j + 1, r1, by rw [r2]; congr 2; congr 1; omega, by simpa using r3, r4, r5⟩
theorem mputK_spec : ∀ {l : List ME} {k : CV} {v : AS} {clk : Nat} {K : List ME → Bool → Option R} {r : R}, mputK l k v clk K = some r → ∃ l' b, K l' b = some r ∧ ∀ φ d kv vv (es : List MapEntry) i, KeyFit d k → CR φ k kv → SR φ v vv → A2 (MR φ) l es →
    (b = true ∧ Instr.findNow d kv es i = some none ∧ A2 (MR φ) l' (es ++ [{ key := kv, val := vv, born := clk }])) ∨ (b = false ∧ ∃ m j, Instr.findNow d kv es i = some (some (i + j, m.val)) ∧ es[j]? = some m ∧ m.key = kv ∧ A2 (MR φ) l' (es.set j { m with key := kv, val := vv }))
  | [], k, v, clk, K, r, h => ⟨[⟨k, v, clk⟩], true, h, fun φ d kv vv es i hd hk hv hl => .inl ⟨rfl, by cases hl; rfl, by cases hl; exact .cons ⟨hk, hv, rfl⟩ .nil⟩⟩
  | e :: l, k, v, clk, K, r, h => by
    obtain ⟨c, hc, h⟩ := ob_some (show ob (sameKey k e.k) _ = some r from h)
    cases c with
    | true =>
      refine ⟨_, _, h, fun φ d kv vv es i hd hk hv hl => .inr ?_⟩
      cases hl with
      | cons hm ht =>
        rename_i m es
        obtain ⟨q1, q2⟩ := sameKey_spec hc hd hk hm.k
        exact ⟨rfl, m, 0, by unfold Instr.findNow; rw [q1]; rfl, rfl, q2 rfl, .cons ⟨hk, hv, hm.c⟩ ht⟩
    | false =>
      obtain ⟨l', b, h1, h2⟩ := mputK_spec (K := fun l b => K (e :: l) b) (show mputK l k v clk _ = some r from h)
      refine ⟨_, _, h1, fun φ d kv vv es i hd hk hv hl => ?_⟩
      cases hl with
      | cons hm ht =>
        rename_i m es
        obtain ⟨q1, q2⟩ := sameKey_spec hc hd hk hm.k
        have e1 : Instr.findNow d kv (m :: es) i = Instr.findNow d kv es (i + 1) := by
          show (match Instr.sameNow d kv m.key with | some true => _ | some false => _ | none => _) = _
          rw [q1]
        rw [e1]
        rcases h2 φ d kv vv es (i + 1) hd hk hv ht with ⟨r1, r2, r3⟩ | ⟨r1, m', j, r2, r3, r4, r5⟩
        · exact .inl ⟨r1, r2, .cons hm r3⟩
        · exact .inr ⟨r1, m', j + 1, by rw [r2]; congr 2; congr 1; omega, by simpa using r3, r4, .cons hm r5⟩
theorem checkKey_run {kt : TypeId} {dk : TypeDesc} (hu : P.underlying kt = some dk) {k : CV} (hd : KeyFit dk k) {φ : Ph} {v : Value} (hv : CR φ k v) (b : Bool) (w : World) : (Instr.checkKey b 10000 kt v).run P w = .ok () w := by
  obtain ⟨n, hn⟩ : ∃ n, 10000 = n + 1 := ⟨9999, rfl⟩
  rw [hn]
  unfold Instr.checkKey
  rw [Sem.run_bind, run_underlying hu, Result.andThen_ok]
  rcases hd with ⟨_, q, rfl⟩ | ⟨_, rfl⟩ <;> rfl
theorem findKey_run {kt : TypeId} {dk : TypeDesc} (hu : P.underlying kt = some dk) {v : Value} {es : List MapEntry} {x : Option (Nat × Value)} (hf : Instr.findNow dk v es 0 = some x) (w : World) : (Instr.findKey kt v es).run P w = .ok x w := by
  unfold Instr.findKey
  rw [Sem.run_bind, run_underlying hu, Result.andThen_ok, hf]
  rfl
theorem stays_run {k : CV} {dk : TypeDesc} (hd : KeyFit dk k) {φ : Ph} {v : Value} (hv : CR φ k v) (w : World) : (Instr.keyThatStays v v).run P w = .ok v w := by
  unfold Instr.keyThatStays
  rw [if_pos]
  · rfl
  · obtain ⟨n, hn⟩ : ∃ n, 10000 = n + 1 := ⟨9999, rfl⟩
    cases k with
    | i k a => cases hv; simp [Instr.sameBits]
    | s a => cases hv; simp [Instr.sameBits, ba_refl]
    | _ => rcases hd with ⟨q, _⟩ | ⟨q, _⟩ <;> cases q
/-- the zero of an element type -/
theorem zeroK_spec {t : TypeId} {ti : TI} (hT : TIok P t ti) {K : AS → Option R} {r : R} (h1 : zeroK ti K = some r) : ∃ s, K s = some r ∧ ∃ z, (∀ w, (zeroValue t).run P w = .ok z w) ∧ ∀ φ, SR φ s z := by
  obtain ⟨z, hz, _, _, hA, hC⟩ := hT.zero
  unfold zeroK at h1
  cases hq : isAgg ti.d with
  | true => rw [hq, bf_true] at h1; exact ⟨_, h1, z, hz, fun φ => hA hq φ⟩
  | false =>
    rw [hq, bf_false] at h1
    obtain ⟨x, hx, hxr⟩ := hC hq
    rw [hx] at h1
    exact ⟨_, h1, z, hz, hxr⟩
/-- a map in the world -/
theorem map_at {n : Nat} {l : List ME} {clk : Nat} (hm : h.t.get n = some (.map l clk)) {B : Base} {φ : Ph} {w : World} (hw : HR B φ h.t.get w) {v : Value} (hv : CR φ (.mp n) v) : ∃ b f S es, φ.blk n = some (b, f, S) ∧ v = .map (some b) ∧ w.heap[b]? = some (.map es clk) ∧ A2 (MR φ) l es.toList := by
  obtain ⟨b, f, S, q, rfl⟩ := hv
  obtain ⟨b', f', S', es, q', hb, hl⟩ := hw.obj _ _ hm
  rw [q] at q'
  obtain ⟨rfl, rfl, rfl⟩ : b = b' ∧ f = f' ∧ S = S' := by simpa using q'
  exact ⟨b, f, S, es, q, rfl, hb, hl⟩
/-- a map turned -/
theorem map_put {n : Nat} {l l' : List ME} {clk clk' : Nat} (hm : h.t.get n = some (.map l clk)) {B : Base} {φ : Ph} {w : World} (hw : HR B φ h.t.get w) {b f S : Nat} (hb : φ.blk n = some (b, f, S)) {es : Array MapEntry} (hl : A2 (MR φ) l' es.toList) {es0 : Array MapEntry} (hh : w.heap[b]? = some (.map es0 clk)) :
    HR B φ (GM.set h.t.get n (some (.map l' clk'))) (w.putObj b (.map es clk')) := by
  refine hw.upd (b := b) (x := (f, S)) (fun _ _ h => h) hm rfl (fun l hl => by cases hl) hb ?_ ?_ (fun k hk => World.putObj_heap_other hk) World.putObj_size rfl rfl rfl
  · exact ⟨b, f, S, es, hb, World.putObj_heap_same (Array.getElem?_eq_some_iff.1 hh).1, hl⟩
  · intro m p y hmn hgm hp hbm
    have := hw.apart n m _ p b _ y (Ne.symm hmn) hm hgm rfl hp hb hbm
    cases this
theorem lookup_s (hE : EOk P E) {t : TypeId} {x k : Operand} {ok : Bool} (ho : o.op = .lookup t x k ok) (h1 : oLookup E tm t x k ok h K = some r) : ∃ v, K v h = some r ∧ OpR P o tm h.t.get v := by
  obtain ⟨c, h1, hx⟩ := evC_spec (K := fun x => evC tm k fun k => mapK E t k fun e => zeroK e fun z => _) h1
  obtain ⟨kc, h1, hk⟩ := evC_spec h1
  obtain ⟨kt, e, te, dk, ud, udk, hfit, hte, h1⟩ := mapK_spec hE h1
  obtain ⟨z, h1, zv, hz, hzr⟩ := zeroK_spec (hE.ty _ _ hte) h1
  have okr : ∀ {s : AS} {b : Bool}, okK ok s b h K = some r → ∃ v, K v h = some r ∧ ∀ φ u, SR φ s u → AR φ v (if ok then .tuple #[u, .bool b] else u) := by
    intro s b hh
    unfold okK at hh
    cases ok with
    | true => exact ⟨_, hh, fun φ u hu => ⟨[u, .bool b], rfl, .cons hu (.cons rfl .nil)⟩⟩
    | false =>
      obtain ⟨v, q1, q2⟩ := ofS_spec (show ofS s (fun v => K v h) = some r from hh)
      exact ⟨v, q1, fun φ u hu => (q2 φ u).1 hu⟩
  have getm : ∀ {b : Nat} {w : World} {es : Array MapEntry} {clk : Nat}, w.heap[b]? = some (.map es clk) → (getObj b).run P w = .ok (.map es clk) w := fun hb => by simp [getObj, Sem.run, hb]
  cases c with
  | nilm =>
    obtain ⟨v, h2, hv⟩ := okr h1
    refine ⟨v, h2, fun B φ a w hw hg hn => ⟨_, ?_, hv φ zv (hzr φ)⟩⟩
    have ex := hx φ a hg (hn.sub (by rw [ho]; simp [Op.operands]))
    have ek := hk φ a hg (hn.sub (by rw [ho]; simp [Op.operands]))
    simp only [CR] at ex
    unfold execOp
    simp only [ho, ex]
    refine run_v ?_
    unfold Instr.lookup
    rw [Sem.run_bind, run_underlying ud, Result.andThen_ok]
    simp only [Sem.run_bind, Sem.run_pure, Result.andThen_ok, checkKey_run udk hfit ek, findKey_run (es := []) udk (x := none) rfl, hz]
  | mp n =>
    obtain ⟨oo, hoo, h1⟩ := ob_some (show ob (hget h n) _ = some r from h1)
    cases oo with
    | map l clk =>
      obtain ⟨res, h1, hf⟩ := findK_spec (show findK l kc _ = some r from h1)
      have main : ∀ (s : AS) (bb : Bool), okK ok s bb h K = some r → (∀ B φ a w, HR B φ h.t.get w → Glob φ → On φ tm o.op.operands.toList a → ∃ u, SR φ s u ∧ (execOp a.eval o).run P w = .ok (.value (if ok then .tuple #[u, .bool bb] else u)) w) → ∃ v, K v h = some r ∧ OpR P o tm h.t.get v := by
        intro s bb h1 hh
        obtain ⟨v, h2, hv⟩ := okr h1
        refine ⟨v, h2, fun B φ a w hw hg hn => ?_⟩
        obtain ⟨u, q1, q2⟩ := hh B φ a w hw hg hn
        exact ⟨_, q2, hv φ u q1⟩
      cases res with
      | none =>
        refine main z false h1 fun B φ a w hw hg hn => ⟨zv, hzr φ, ?_⟩
        have ek := hk φ a hg (hn.sub (by rw [ho]; simp [Op.operands]))
        obtain ⟨b, f, S, es, q, ex, hb, hl⟩ := map_at hoo hw (hx φ a hg (hn.sub (by rw [ho]; simp [Op.operands])))
        rcases hf φ dk (a.eval k) es.toList 0 hfit ek hl with ⟨_, f2⟩ | ⟨e, m, j, f1, _⟩
        · unfold execOp
          simp only [ho, ex]
          refine run_v ?_
          unfold Instr.lookup
          rw [Sem.run_bind, run_underlying ud, Result.andThen_ok]
          simp only [Sem.run_bind, Sem.run_pure, Result.andThen_ok, getm hb, checkKey_run udk hfit ek, findKey_run udk f2, hz]
        · cases f1
      | some e =>
        have h1' : okK ok e.v true h K = some r := h1
        refine main e.v true h1' fun B φ a w hw hg hn => ?_
        have ek := hk φ a hg (hn.sub (by rw [ho]; simp [Op.operands]))
        obtain ⟨b, f, S, es, q, ex, hb, hl⟩ := map_at hoo hw (hx φ a hg (hn.sub (by rw [ho]; simp [Op.operands])))
        rcases hf φ dk (a.eval k) es.toList 0 hfit ek hl with ⟨f1, _⟩ | ⟨e', m, j, f1, f2, f3, f4, f5⟩
        · cases f1
        · cases f1
          refine ⟨m.val, f4.v, ?_⟩
          unfold execOp
          simp only [ho, ex]
          refine run_v ?_
          unfold Instr.lookup
          rw [Sem.run_bind, run_underlying ud, Result.andThen_ok]
          simp only [Sem.run_bind, Sem.run_pure, Result.andThen_ok, getm hb, checkKey_run udk hfit ek, findKey_run udk f2]
    | _ => cases h1
  | _ => cases h1
theorem update_s (hE : EOk P E) {t : TypeId} {x k y : Operand} (ho : o.op = .mapUpdate t x k y ∨ o.op = .insert t x k y) (h1 : oUpdate E tm t x k y h K = some r) : OpAny P o tm h K r := by
  have hsub : ∀ z, z ∈ [x, k, y] → z ∈ o.op.operands.toList := by intro z hz; rcases ho with ho | ho <;> rw [ho] <;> exact hz
  obtain ⟨c, h1, hx⟩ := evC_spec (K := fun m => withMp m fun n => evC tm k fun k => mapK E t k fun _ => evK tm y fun v => _) h1
  obtain ⟨n, rfl, h1⟩ := withMp_spec h1
  obtain ⟨kc, h1, hk⟩ := evC_spec h1
  obtain ⟨kt, e, te, dk, ud, udk, hfit, hte, h1⟩ := mapK_spec hE h1
  obtain ⟨vv, h1, hy⟩ := evK_spec h1
  obtain ⟨s, h1, hs⟩ := toS_spec h1
  obtain ⟨oo, hoo, h1⟩ := ob_some h1
  cases oo with
  | map l clk =>
    obtain ⟨l', bb, h1, hput⟩ := mputK_spec (show mputK l kc s clk _ = some r from h1)
    rw [fN_eq] at h1
    obtain ⟨h', h2, h3, h4⟩ := hset_spec h1
    refine ⟨_, h', No, h2, by omega, fun _ hm => hm.elim, fun B φ a w hw hg hn hf => ?_⟩
    have hn' := hn.sub hsub
    have ek := hk φ a hg (hn'.sub (by simp))
    have ey := (hs _ _).1 (hy φ a hg (hn'.sub (by simp)))
    obtain ⟨b, f, S, es, q, ex, hb, hl⟩ := map_at hoo hw (hx φ a hg (hn'.sub (by simp)))
    have exec : ∀ w', (Instr.mapUpdate t (a.eval x) (a.eval k) (a.eval y)).run P w = .ok () w' → (execOp a.eval o).run P w = .ok .skip w' := by
      intro w' hh
      rcases ho with ho | ho <;> (unfold execOp; simp only [ho]; exact run_u hh)
    have getm : (getObj b).run P w = .ok (.map es clk) w := by simp [getObj, Sem.run, hb]
    have setm : ∀ ob, (setObj b ob).run P w = .ok () (w.putObj b ob) := fun ob => by simp [setObj, Sem.run, hb, World.putObj]
    rw [h4]
    rcases hput φ dk _ _ es.toList 0 hfit ek ey hl with ⟨rfl, f1, f2⟩ | ⟨rfl, m, j, f1, f2, f3, f4⟩
    · refine ⟨_, _, exec _ ?_, φ, .refl φ, fun _ _ => ⟨rfl, rfl⟩, map_put hoo hw q (es := es.push { key := a.eval k, val := a.eval y, born := clk }) (by simpa using f2) hb, rfl⟩
      rw [ex]
      unfold Instr.mapUpdate
      rw [Sem.run_bind, run_underlying ud, Result.andThen_ok]
      simp only [Sem.run_bind, Result.andThen_ok, getm, checkKey_run udk hfit ek, findKey_run udk f1, setm]
      rfl
    · refine ⟨_, _, exec _ ?_, φ, .refl φ, fun _ _ => ⟨rfl, rfl⟩, map_put hoo hw q (es := es.modify j fun e => { e with key := a.eval k, val := a.eval y }) ?_ hb, rfl⟩
      · rw [ex]
        unfold Instr.mapUpdate
        rw [Sem.run_bind, run_underlying ud, Result.andThen_ok]
        have hkey : ((es[j]?).map (·.key)).getD (a.eval k) = a.eval k := by
          rw [Array.getElem?_toList] at f2
          simp [f2, f3]
        simp only [Nat.zero_add] at f1
        simp only [Sem.run_bind, Result.andThen_ok, getm, checkKey_run udk hfit ek, findKey_run udk f1, hkey, stays_run hfit ek, setm]
        rfl
      · rw [Array.getElem?_toList] at f2
        have : (es.modify j fun e => { e with key := a.eval k, val := a.eval y }).toList = es.toList.set j { m with key := a.eval k, val := a.eval y } := by
          apply List.ext_getElem?
          intro i
          rw [Array.getElem?_toList, Array.getElem?_modify, List.getElem?_set, Array.getElem?_toList]
          by_cases e : j = i
          · subst e
            simp [f2]
            exact (Array.getElem?_eq_some_iff.1 f2).1
          · simp [e]
        rw [this]
        exact f4
  | _ => cases h1
theorem list_modify {es : Array MapEntry} {j : Nat} {m : MapEntry} (h : es[j]? = some m) (f : MapEntry → MapEntry) : (es.modify j f).toList = es.toList.set j (f m) := by
  apply List.ext_getElem?
  intro i
  rw [Array.getElem?_toList, Array.getElem?_modify, List.getElem?_set, Array.getElem?_toList]
  by_cases e : j = i
  · subst e
    simp [h]
    exact (Array.getElem?_eq_some_iff.1 h).1
  · simp [e]
theorem entry_s (hE : EOk P E) {t : TypeId} {x k : Operand} (ho : o.op = .mapEntry t x k) (h1 : oEntry E tm t x k h K = some r) : OpAny P o tm h K r := by
  have hsub : ∀ z, z ∈ [x, k] → z ∈ o.op.operands.toList := by intro z hz; rw [ho]; exact hz
  obtain ⟨c, h1, hx⟩ := evC_spec (K := fun m => withMp m fun n => evC tm k fun k => mapK E t k fun e => _) h1
  obtain ⟨n, rfl, h1⟩ := withMp_spec h1
  obtain ⟨kc, h1, hk⟩ := evC_spec h1
  obtain ⟨kt, e, te, dk, ud, udk, hfit, hte, h1⟩ := mapK_spec hE h1
  obtain ⟨oo, hoo, h1⟩ := ob_some h1
  cases oo with
  | map l clk =>
    obtain ⟨res, h1, hfnd⟩ := findK_spec (show findK l kc _ = some r from h1)
    have exec : ∀ (a : Act) w w' y, (Instr.mapEntry t (a.eval x) (a.eval k)).run P w = .ok y w' → (execOp a.eval o).run P w = .ok (.value y) w' := by
      intro a w w' y hh
      unfold execOp
      simp only [ho]
      exact run_v hh
    have getm : ∀ {b : Nat} {w : World} {es : Array MapEntry}, w.heap[b]? = some (.map es clk) → (getObj b).run P w = .ok (.map es clk) w ∧ ∀ ob, (setObj b ob).run P w = .ok () (w.putObj b ob) := fun hb => ⟨by simp [getObj, Sem.run, hb], fun ob => by simp [setObj, Sem.run, hb, World.putObj]⟩
    cases res with
    | some e0 =>
      refine ⟨_, h, No, h1, Nat.le_refl _, fun _ hm => hm.elim, fun B φ a w hw hg hn hf => ?_⟩
      have hn' := hn.sub hsub
      have ek := hk φ a hg (hn'.sub (by simp))
      obtain ⟨b, f, S, es, q, ex, hb, hl⟩ := map_at hoo hw (hx φ a hg (hn'.sub (by simp)))
      rcases hfnd φ dk (a.eval k) es.toList 0 hfit ek hl with ⟨f1, _⟩ | ⟨e', m, j, f1, f2, f3, f4, f5⟩
      · cases f1
      · cases f1
        rw [Array.getElem?_toList] at f3
        have hsame : (es.modify j fun e => { e with key := a.eval k }).toList = es.toList := by
          rw [list_modify f3]
          have : ({ m with key := a.eval k } : MapEntry) = m := by cases m; simp at f5; rw [f5]
          rw [this]
          apply List.ext_getElem?
          intro i
          rw [List.getElem?_set]
          split
          · rename_i hij
            subst hij
            split
            · simpa using f3.symm
            · rename_i hlt; simp at hlt; have := (Array.getElem?_eq_some_iff.1 f3).1; omega
          · rfl
        refine ⟨_, _, exec a w (w.putObj b (.map (es.modify j fun e => { e with key := a.eval k }) clk)) (.tuple #[m.val, .int .i64 m.born]) ?_, φ, .refl φ, fun _ _ => ⟨rfl, rfl⟩, ?_, [m.val, .int .i64 m.born], rfl, .cons f4.v (.cons ?_ .nil)⟩
        · rw [ex]
          unfold Instr.mapEntry
          rw [Sem.run_bind, run_underlying ud, Result.andThen_ok]
          have hkey : ((es[j]?).map (·.key)).getD (a.eval k) = a.eval k := by simp [f3, f5]
          have hborn : ((es[j]?).map (·.born)).getD 0 = m.born := by simp [f3]
          simp only [Nat.zero_add] at f2
          simp only [Sem.run_bind, Result.andThen_ok, (getm hb).1, checkKey_run udk hfit ek, findKey_run udk f2, hkey, stays_run hfit ek, (getm hb).2]
          simp [f3, goInt]
        · have := map_put hoo hw q (l' := l) (clk' := clk) (es := es.modify j fun e => { e with key := a.eval k }) (by rw [hsame]; exact hl) hb
          have hgs : GM.set h.t.get n (some (.map l clk)) = h.t.get := by
            funext m
            unfold GM.set
            split
            · rename_i e; subst e; exact hoo.symm
            · rfl
          rw [hgs] at this
          exact this
        · show Value.int .i64 m.born = .int .i64 (.ofNat e0.c)
          rw [f4.c]; rfl
    | none =>
      obtain ⟨z, h1, zv, hz, hzr⟩ := zeroK_spec (hE.ty _ _ hte) h1
      obtain ⟨l', bb, h1, hput⟩ := mputK_spec h1
      rw [fN_eq] at h1
      obtain ⟨h', h2, h3, h4⟩ := hset_spec h1
      refine ⟨_, h', No, h2, by omega, fun _ hm => hm.elim, fun B φ a w hw hg hn hf => ?_⟩
      have hn' := hn.sub hsub
      have ek := hk φ a hg (hn'.sub (by simp))
      obtain ⟨b, f, S, es, q, ex, hb, hl⟩ := map_at hoo hw (hx φ a hg (hn'.sub (by simp)))
      rcases hfnd φ dk (a.eval k) es.toList 0 hfit ek hl with ⟨_, f2⟩ | ⟨e', m, j, f1, _⟩
      · rcases hput φ dk _ _ es.toList 0 hfit ek (hzr φ) hl with ⟨rfl, f3, f4⟩ | ⟨rfl, m, j, f3, _⟩
        · rw [h4]
          refine ⟨_, _, exec a w _ (.tuple #[zv, .int .i64 clk]) ?_, φ, .refl φ, fun _ _ => ⟨rfl, rfl⟩, map_put hoo hw q (es := es.push { key := a.eval k, val := zv, born := clk }) (by simpa using f4) hb, [zv, .int .i64 clk], rfl, .cons (hzr φ) (.cons rfl .nil)⟩
          rw [ex]
          unfold Instr.mapEntry
          rw [Sem.run_bind, run_underlying ud, Result.andThen_ok]
          simp only [Sem.run_bind, Result.andThen_ok, (getm hb).1, checkKey_run udk hfit ek, findKey_run udk f2, hz, (getm hb).2]
          rfl
        · rw [f2] at f3; cases f3
      · cases f1
  | _ => cases h1
theorem mstoreK_spec : ∀ {l : List ME} {st : Nat} {v : AS} {K : List ME → Option R} {r : R}, mstoreK l st v K = some r → ∃ l', K l' = some r ∧ ∀ φ vv (es : List MapEntry), SR φ v vv → A2 (MR φ) l es → ∃ j m, es.findIdx? (fun e => (e.born : Int) == (st : Int)) = some j ∧ es[j]? = some m ∧ A2 (MR φ) l' (es.set j { m with val := vv })
  | [], st, v, K, r, h => by cases h
  | e :: l, st, v, K, r, h => by
    cases hc : Nat.beq e.c st with
    | true =>
      have hce : e.c = st := Nat.eq_of_beq_eq_true hc
      have h' : K (⟨e.k, v, e.c⟩ :: l) = some r := by
        have : mstoreK (e :: l) st v K = bf (Nat.beq e.c st) (K (⟨e.k, v, e.c⟩ :: l)) (mstoreK l st v fun l => K (e :: l)) := rfl
        rw [this, hc] at h; exact h
      refine ⟨_, h', fun φ vv es hv hl => ?_⟩
      cases hl with
      | cons hm ht =>
        rename_i m es
        refine ⟨0, m, ?_, rfl, .cons ⟨hm.k, hv, hm.c⟩ ht⟩
        rw [List.findIdx?_cons, hm.c, hce]; simp
    | false =>
      have hne : e.c ≠ st := fun hh => by rw [hh, Nat.beq_refl] at hc; cases hc
      have h' : mstoreK l st v (fun l => K (e :: l)) = some r := by
        have : mstoreK (e :: l) st v K = bf (Nat.beq e.c st) (K (⟨e.k, v, e.c⟩ :: l)) (mstoreK l st v fun l => K (e :: l)) := rfl
        rw [this, hc] at h; exact h
      obtain ⟨l', h1, h2⟩ := mstoreK_spec h'
      refine ⟨_, h1, fun φ vv es hv hl => ?_⟩
      cases hl with
      | cons hm ht =>
        rename_i m es
        obtain ⟨j, m', q1, q2, q3⟩ := h2 φ vv es hv ht
        refine ⟨j + 1, m', ?_, by simpa using q2, .cons hm q3⟩
        rw [List.findIdx?_cons, hm.c]
        have : ((e.c : Int) == (st : Int)) = false := by simp; omega
        rw [this]
        simp [q1]
theorem entryStore_s {t : TypeId} {x k y : Operand} (ho : o.op = .entryStore t x k y) (h1 : oEntryStore tm x k y h K = some r) : OpAny P o tm h K r := by
  have hsub : ∀ z, z ∈ [x, k, y] → z ∈ o.op.operands.toList := by intro z hz; rw [ho]; exact hz
  obtain ⟨c, h1, hx⟩ := evC_spec (K := fun m => withMp m fun n => evK tm k fun s => asN s fun s => evK tm y fun v => _) h1
  obtain ⟨n, rfl, h1⟩ := withMp_spec h1
  obtain ⟨kv, h1, hk⟩ := evK_spec h1
  obtain ⟨kk, st, rfl, h1⟩ := asN_spec h1
  obtain ⟨vv, h1, hy⟩ := evK_spec h1
  obtain ⟨s, h1, hs⟩ := toS_spec h1
  obtain ⟨oo, hoo, h1⟩ := ob_some h1
  cases oo with
  | map l clk =>
    obtain ⟨l', h1, hput⟩ := mstoreK_spec (show mstoreK l st s _ = some r from h1)
    obtain ⟨h', h2, h3, h4⟩ := hset_spec h1
    refine ⟨_, h', No, h2, by omega, fun _ hm => hm.elim, fun B φ a w hw hg hn hf => ?_⟩
    have hn' := hn.sub hsub
    have ek := hk φ a hg (hn'.sub (by simp))
    simp only [AR, CR] at ek
    have ey := (hs _ _).1 (hy φ a hg (hn'.sub (by simp)))
    obtain ⟨b, f, S, es, q, ex, hb, hl⟩ := map_at hoo hw (hx φ a hg (hn'.sub (by simp)))
    obtain ⟨j, m, f1, f2, f3⟩ := hput φ _ es.toList ey hl
    rw [Array.getElem?_toList] at f2
    rw [h4]
    refine ⟨.skip, w.putObj b (.map (es.modify j fun e => { e with val := a.eval y }) clk), ?_, φ, .refl φ, fun _ _ => ⟨rfl, rfl⟩, map_put hoo hw q (es := es.modify j fun e => { e with val := a.eval y }) (by rw [list_modify f2]; exact f3) hb, rfl⟩
    unfold execOp
    simp only [ho, ex, ek]
    refine run_u ?_
    have hfi : es.findIdx? (fun e => (e.born : Int) == Int.ofNat st) = some j := by
      have he : es.findIdx? (fun e => (e.born : Int) == Int.ofNat st) = es.toList.findIdx? (fun e => (e.born : Int) == (st : Int)) := by cases es; simp
      rw [he]; exact f1
    unfold Instr.entryStore
    simp only [Sem.run_bind, getObj, Sem.run, hb, asInt, asIntOf, Sem.run_pure, Result.andThen_ok, hfi]
    simp [setObj, Sem.run, hb, World.putObj]
  | _ => cases h1
end Go.Ev
