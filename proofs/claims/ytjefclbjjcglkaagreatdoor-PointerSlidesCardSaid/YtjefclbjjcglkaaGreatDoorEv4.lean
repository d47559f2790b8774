/- The evaluator: operations on temporaries, one by one. -/
import Derived.Test.YtjefclbjjcglkaaGreatDoorEv3
set_option linter.unusedVariables false
set_option linter.unusedSimpArgs false
namespace Go.Ev
open Go
variable {R : Type} {P : Program} {E : Env} {tm : TM} {h : H} {K : AV → H → Option R} {r : R} {o : Oper}
theorem A2.of_get {α β : Type} {Q : α → β → Prop} : ∀ {l : List α} {m : List β}, l.length = m.length → (∀ (i : Nat) (a : α) (b : β), l[i]? = some a → m[i]? = some b → Q a b) → A2 Q l m
  | [], [], _, _ => .nil
  | [], _ :: _, h, _ => by simp at h
  | _ :: _, [], h, _ => by simp at h
  | a :: l, b :: m, h, k => .cons (k 0 a b (by simp) (by simp)) (A2.of_get (by simpa using h) fun i a b ha hb => k (i + 1) a b (by simpa using ha) (by simpa using hb))
theorem move_s {x : Operand} (ho : o.op = .move x ∨ o.op = .assign x) (h1 : oMove tm x h K = some r) : ∃ v, K v h = some r ∧ OpP P o tm v := by
  obtain ⟨v, h2, h3⟩ := evK_spec (K := fun v => K v h) h1
  refine ⟨v, h2, fun φ a w hg hn => ⟨a.eval x, ?_, h3 φ a hg (hn.sub ?_)⟩⟩
  · rcases ho with ho | ho <;> (unfold execOp; rw [ho]; rfl)
  · rcases ho with ho | ho <;> simp [ho, Op.operands]
theorem pick_s {c x y : Operand} (ho : o.op = .pick c x y) (h1 : oPick tm c x y h K = some r) : ∃ v, K v h = some r ∧ OpP P o tm v := by
  obtain ⟨v, h2, h3⟩ := evC_spec (K := fun c => withB c fun c => evK tm (bf c x y) fun v => K v h) h1
  obtain ⟨b, rfl, h4⟩ := withB_spec h2
  obtain ⟨u0, h5, h6⟩ := evK_spec (K := fun v => K v h) h4
  refine ⟨u0, h5, fun φ a w hg hn => ⟨a.eval (bf b x y), ?_, h6 φ a hg (hn.sub ?_)⟩⟩
  · have e := h3 φ a hg (hn.sub (by simp [ho, Op.operands]))
    simp only [CR] at e
    unfold execOp
    simp only [ho, e, asBool, Sem.run_bind, Sem.run_pure, Result.andThen_ok]
    cases b <;> rfl
  · cases b <;> simp [ho, Op.operands]
theorem bin_s (hE : EOk P E) {op : BinOp} {t t' : TypeId} {x y : Operand} (ho : o.op = .binOp op t x y t') (h1 : oBin E tm op t x y h K = some r) : ∃ v, K v h = some r ∧ OpP P o tm v := by
  obtain ⟨c, h2, h3⟩ := evC_spec (K := fun x => evC tm y fun y => binop E t op x y fun v => K (.c v) h) h1
  obtain ⟨d, h4, h5⟩ := evC_spec h2
  obtain ⟨z, h6, h7⟩ := binop_spec hE (K := fun v => K (.c v) h) h4
  refine ⟨.c z, h6, fun φ a w hg hn => ?_⟩
  obtain ⟨v, h8, h9⟩ := h7 φ (a.eval x) (a.eval y) x y w (h3 φ a hg (hn.sub (by simp [ho, Op.operands]))) (h5 φ a hg (hn.sub (by simp [ho, Op.operands])))
  refine ⟨v, ?_, h9⟩
  unfold execOp
  simp only [ho]
  exact run_v h8
theorem un_s {op : UnOp} {t : TypeId} {x : Operand} (ho : o.op = .unOp op t x) (h1 : oUn tm op x h K = some r) : ∃ v, K v h = some r ∧ OpP P o tm v := by
  obtain ⟨c, h2, h3⟩ := evC_spec (K := fun x => _) h1
  cases op with
  | neg =>
    cases hy : isY c with
    | true =>
      have h2 : bf (isY c) (withY c fun k c l => mulL (-1) l fun l => fI (Int.sub 0 c) fun c => mkY k c l fun v => K (.c v) h) _ = some r := h2
      rw [hy, bf_true] at h2
      obtain ⟨k, d, m, h4, hm⟩ := withY_spec h2
      obtain ⟨q, h5, h6⟩ := mulL_spec h4
      rw [fI_eq] at h5
      obtain ⟨z, h7, h8⟩ := mkY_spec (K := fun v => K (.c v) h) h5
      refine ⟨_, h7, fun φ a w hg hn => ?_⟩
      have e := h3 φ a hg (hn.sub (by simp [ho, Op.operands]))
      obtain ⟨e1, e2, e3⟩ := hm φ _ e
      obtain ⟨g1, g2⟩ := h6 φ.va 0
      obtain ⟨g3, g4⟩ := h8 φ ⟨g2 e2, e3 hy⟩
      refine ⟨.int k (k.wrap (0 - (d + lin φ.va 0 m))), ?_, ?_⟩
      · unfold execOp
        simp only [ho, e1]
        exact run_v rfl
      · rw [show 0 - (d + lin φ.va 0 m) = Int.sub 0 d + lin φ.va 0 q by rw [g1]; show _ = (0 - d) + _; omega, g3]
        exact g4
    | false =>
    have h2 : bf (isY c) _ (withI c fun k n => fI (wrapI k (Int.sub 0 n)) fun n => K (.c (.i k n)) h) = some r := h2
    rw [hy, bf_false] at h2
    obtain ⟨k, n, rfl, h4⟩ := withI_spec h2
    rw [fI_eq, wrapI_eq] at h4
    refine ⟨_, h4, fun φ a w hg hn => ⟨.int k (k.wrap (0 - n)), ?_, rfl⟩⟩
    have e := h3 φ a hg (hn.sub (by simp [ho, Op.operands]))
    simp only [CR] at e
    unfold execOp
    simp only [ho, e]
    exact run_v rfl
  | not =>
    obtain ⟨b, rfl, h4⟩ := withB_spec h2
    rw [fB_eq] at h4
    refine ⟨_, h4, fun φ a w hg hn => ⟨.bool !b, ?_, rfl⟩⟩
    have e := h3 φ a hg (hn.sub (by simp [ho, Op.operands]))
    simp only [CR] at e
    unfold execOp
    simp only [ho, e]
    exact run_v rfl
  | _ => cases h2
theorem convert_s (hE : EOk P E) {s d : TypeId} {x : Operand} (ho : o.op = .convert s d x) (h1 : oConvert E tm s d x h K = some r) : ∃ v, K v h = some r ∧ OpP P o tm v := by
  obtain ⟨c, h2, h3⟩ := evC_spec (K := fun x => ty E s fun _ => ty E d fun t => _) h1
  obtain ⟨ts, hs, h2⟩ := ob_some h2
  obtain ⟨td, hd, h2⟩ := ob_some h2
  obtain ⟨ds, us, _⟩ := (hE.ty _ _ hs).und
  obtain ⟨dd, ud, kd⟩ := (hE.ty _ _ hd).und
  have ex : ∀ φ a, Glob φ → On φ tm o.op.operands.toList a → CR φ c (a.eval x) := fun φ a hg hn => h3 φ a hg (hn.sub (by simp [ho, Op.operands]))
  cases hq : td.d with
  | int k =>
    rw [hq] at h2 kd
    cases kd
    cases hy : isY c with
    | true =>
      have h2 : bf (isY c) (withY c fun _ c l => mkY k c l fun v => K (.c v) h) _ = some r := h2
      rw [hy, bf_true] at h2
      obtain ⟨k', d, m, h4, hm⟩ := withY_spec h2
      obtain ⟨z, h7, h8⟩ := mkY_spec (K := fun v => K (.c v) h) h4
      refine ⟨_, h7, fun φ a w hg hn => ?_⟩
      obtain ⟨e1, e2, e3⟩ := hm φ _ (ex φ a hg hn)
      obtain ⟨g3, g4⟩ := h8 φ ⟨e2, e3 hy⟩
      refine ⟨.int k (k.wrap (d + lin φ.va 0 m)), ?_, by rw [g3]; exact g4⟩
      unfold execOp
      simp only [ho, e1]
      refine run_v ?_
      unfold convert
      rw [Sem.run_bind, run_underlying us, Result.andThen_ok, Sem.run_bind, run_underlying ud, Result.andThen_ok]
      rfl
    | false =>
    have h2 : bf (isY c) _ (withI c fun _ n => fI (wrapI k n) fun n => K (.c (.i k n)) h) = some r := h2
    rw [hy, bf_false] at h2
    obtain ⟨k', n, rfl, h4⟩ := withI_spec h2
    rw [fI_eq, wrapI_eq] at h4
    refine ⟨_, h4, fun φ a w hg hn => ⟨.int k (k.wrap n), ?_, rfl⟩⟩
    have e := ex φ a hg hn
    simp only [CR] at e
    unfold execOp
    simp only [ho, e]
    refine run_v ?_
    unfold convert
    rw [Sem.run_bind, run_underlying us, Result.andThen_ok, Sem.run_bind, run_underlying ud, Result.andThen_ok]
    rfl
  | str =>
    rw [hq] at h2 kd
    cases kd
    obtain ⟨n, rfl, h4⟩ := withS_spec h2
    refine ⟨_, h4, fun φ a w hg hn => ⟨.string n, ?_, rfl⟩⟩
    have e := ex φ a hg hn
    simp only [CR] at e
    unfold execOp
    simp only [ho, e]
    refine run_v ?_
    unfold convert
    rw [Sem.run_bind, run_underlying us, Result.andThen_ok, Sem.run_bind, run_underlying ud, Result.andThen_ok]
    rfl
  | _ => rw [hq] at h2; cases h2
theorem extract_s {i : Nat} {x : Operand} (ho : o.op = .extract x i) (h1 : oExtract tm x i h K = some r) : ∃ v, K v h = some r ∧ OpP P o tm v := by
  obtain ⟨c, h2, h3⟩ := evK_spec (K := fun x => withTup x fun l => ob (getL l i) fun v => ofS v fun v => K v h) h1
  obtain ⟨l, rfl, h4⟩ := withTup_spec h2
  obtain ⟨v, hv, h5⟩ := ob_some h4
  obtain ⟨u0, h6, h7⟩ := ofS_spec h5
  rw [getL_eq] at hv
  refine ⟨u0, h6, fun φ a w hg hn => ?_⟩
  obtain ⟨vs, e, q⟩ := h3 φ a hg (hn.sub (by simp [ho, Op.operands]))
  obtain ⟨y, hy, hr⟩ := q.get hv
  refine ⟨y, ?_, (h7 φ y).1 hr⟩
  unfold execOp
  simp only [ho, e]
  refine run_v ?_
  simp [Instr.extract, hy]
theorem shapeK_spec {t : TI} {l : List CV} {K : AV → Option R} {r : R} (h : shapeK t l K = some r) : ∃ v, K v = some r ∧ ((isAgg t.d = true ∧ v = .agg l) ∨ (isAgg t.d = false ∧ ∃ x, l = [x] ∧ v = .c x)) := by
  unfold shapeK at h
  cases hq : isAgg t.d with
  | true => rw [hq] at h; exact ⟨_, h, .inl ⟨rfl, rfl⟩⟩
  | false =>
    rw [hq] at h
    cases l with
    | nil => cases h
    | cons x m =>
      cases m with
      | nil => exact ⟨_, h, .inr ⟨rfl, x, rfl, rfl⟩⟩
      | cons => cases h
theorem part_run {t : TypeId} {ti : TI} (hT : TIok P t ti) {φ : Ph} {l : List CV} {vs : List Value} (hl : A2 (CR φ) l vs) {off : Nat} (hle : off + ti.sz ≤ l.length) {v : AV}
    (hv : (isAgg ti.d = true ∧ v = .agg ((l.drop off).take ti.sz)) ∨ (isAgg ti.d = false ∧ ∃ x, (l.drop off).take ti.sz = [x] ∧ v = .c x)) (w : World) : ∃ y, (part t vs.toArray off).run P w = .ok y w ∧ AR φ v y := by
  unfold part
  rw [Sem.run_bind, hT.agg, Result.andThen_ok]
  rcases hv with ⟨ha, rfl⟩ | ⟨ha, x, hx, rfl⟩
  · refine ⟨.agg ((vs.drop off).take ti.sz).toArray, ?_, _, rfl, (hl.drop off).take _⟩
    rw [ha]
    simp only [if_true, Sem.run_bind, hT.size, Result.andThen_ok]
    simp [List.extract_eq_take_drop, Nat.add_sub_cancel_left]
  · rw [ha]
    have h0 : l[off]? = some x := by
      have h2 : ((l.drop off).take ti.sz)[0]? = some x := by rw [hx]; rfl
      rw [List.getElem?_take] at h2
      split at h2
      · rw [List.getElem?_drop] at h2; simpa using h2
      · cases h2
    obtain ⟨y, hy, hr⟩ := hl.get h0
    refine ⟨y, ?_, hr⟩
    simp [hy]
theorem pickK_spec {t : TypeId} {ti : TI} (hT : TIok P t ti) {l : List CV} {off : Nat} (h1 : pickK ti l off h K = some r) : ∃ v, K v h = some r ∧ ∀ φ vs w, A2 (CR φ) l vs → ∃ y, (part t vs.toArray off).run P w = .ok y w ∧ AR φ v y := by
  obtain ⟨h2, h3⟩ := partK_spec h1
  obtain ⟨v, h4, h5⟩ := shapeK_spec h3
  exact ⟨v, h4, fun φ vs w hl => part_run hT hl h2 h5 w⟩
theorem struct_spec (hE : EOk P E) {t : TypeId} {f : Nat} {K : TI → Nat → TypeId → Option R} {r : R} (h1 : (ty E t fun t => withStruct t.d fun fs => ob (getL fs f) fun p => ty E p.2 fun ft => K ft p.1 p.2) = some r) :
    ∃ F fl ft, P.underlying t = some (.struct F) ∧ F[f]? = some fl ∧ T.get E.ty fl.type = some ft ∧ K ft fl.offset fl.type = some r := by
  obtain ⟨ti, ht, h1⟩ := ob_some h1
  obtain ⟨d, ud, kd⟩ := (hE.ty _ _ ht).und
  cases hq : ti.d with
  | struct fs =>
    rw [hq] at h1 kd
    obtain ⟨F, rfl, rfl⟩ := kd
    obtain ⟨p, hp, h1⟩ := ob_some (show ob (getL _ f) _ = some r from h1)
    obtain ⟨ft, hft, h1⟩ := ob_some h1
    rw [getL_eq, List.getElem?_map, Option.map_eq_some_iff] at hp
    obtain ⟨fl, hfl, rfl⟩ := hp
    exact ⟨F, fl, ft, ud, by simpa using hfl, hft, h1⟩
  | _ => rw [hq] at h1; cases h1
theorem field_s (hE : EOk P E) {t : TypeId} {f : Nat} {x : Operand} (ho : o.op = .field t x f) (h1 : oField E tm t x f h K = some r) : ∃ v, K v h = some r ∧ OpP P o tm v := by
  obtain ⟨c, h2, h3⟩ := evK_spec (K := fun x => withAgg x fun l => ty E t fun t => withStruct t.d fun fs => ob (getL fs f) fun p => ty E p.2 fun ft => pickK ft l p.1 h K) h1
  obtain ⟨l, rfl, h4⟩ := withAgg_spec h2
  obtain ⟨F, fl, ft, hu, hf, hft, h5⟩ := struct_spec hE (K := fun ft o _ => pickK ft l o h K) h4
  obtain ⟨v, h6, h7⟩ := pickK_spec (hE.ty _ _ hft) h5
  refine ⟨v, h6, fun φ a w hg hn => ?_⟩
  obtain ⟨vs, e, q⟩ := h3 φ a hg (hn.sub (by simp [ho, Op.operands]))
  obtain ⟨y, h8, h9⟩ := h7 φ vs w q
  refine ⟨y, ?_, h9⟩
  unfold execOp
  simp only [ho, e]
  refine run_v ?_
  unfold Instr.field
  rw [Sem.run_bind, run_underlying hu, Result.andThen_ok]
  simp only [hf, asAgg, Sem.run_bind, Sem.run_pure, Result.andThen_ok]
  exact h8
theorem fieldAddr_s (hE : EOk P E) {t : TypeId} {f : Nat} {x : Operand} (ho : o.op = .fieldAddr t x f) (h1 : oFieldAddr E tm t x f h K = some r) : ∃ v, K v h = some r ∧ OpP P o tm v := by
  obtain ⟨c, h2, h3⟩ := evC_spec (K := fun x => withPtr x fun n off => ty E t fun t => withStruct t.d fun fs => ob (getL fs f) fun p => ty E p.2 fun ft => bf (Nat.beq ft.sz 0) none (fN (Nat.add off p.1) fun o => K (.c (.ptr n o)) h)) h1
  obtain ⟨n, off, rfl, h4⟩ := withPtr_spec h2
  obtain ⟨F, fl, ft, hu, hf, hft, h5⟩ := struct_spec hE (K := fun ft o _ => bf (Nat.beq ft.sz 0) none (fN (Nat.add off o) fun o => K (.c (.ptr n o)) h)) h4
  obtain ⟨h6, h7⟩ := bf_none h5
  rw [fN_eq] at h7
  refine ⟨_, h7, fun φ a w hg hn => ?_⟩
  obtain ⟨b, fo, S, q, e⟩ := h3 φ a hg (hn.sub (by simp [ho, Op.operands]))
  refine ⟨.pointer (some ⟨b, fo + off + fl.offset, none⟩), ?_, b, fo, S, q, by simp [Nat.add_assoc]⟩
  unfold execOp
  simp only [ho, e]
  refine run_v ?_
  unfold Instr.fieldAt
  rw [Sem.run_bind, run_underlying hu, Result.andThen_ok]
  simp only [hf, Instr.sureAddr, Sem.run_bind, Sem.run_pure, Result.andThen_ok]
  have : (fieldPlace ⟨b, fo + off, none⟩ fl).run P w = .ok ⟨b, fo + off + fl.offset, none⟩ w := by
    unfold fieldPlace
    rw [Sem.run_bind, (hE.ty _ _ hft).size, Result.andThen_ok, if_neg, Addr.add_mid]
    · rfl
    · intro h0; rw [h0] at h6; cases h6
  rw [this]; rfl
theorem atK_run {t e : TypeId} {ti : TI} (hT : TIok P e ti) {b f off len i : Nat} {k : IntKind} (w : World) (hi : i < len) :
    (P.underlying t = some (.slice e) → ∀ c, (Instr.indexAt t (.slice (some ⟨b, f + off, none⟩) len c) (.int k (Int.ofNat i))).run P w = .ok (.pointer (some ⟨b, f + (off + i * ti.sz), none⟩)) w) ∧
    (P.underlying t = some (.array len e) → (Instr.indexAt t (.pointer (some ⟨b, f + off, none⟩)) (.int k (Int.ofNat i))).run P w = .ok (.pointer (some ⟨b, f + (off + i * ti.sz), none⟩)) w) := by
  refine ⟨fun hu c => ?_, fun hu => ?_⟩
  · unfold Instr.indexAt
    simp only [asIntOf, Sem.run_bind, Sem.run_pure, Result.andThen_ok, run_underlying hu]
    rw [if_pos ⟨Int.natCast_nonneg _, by simp only [Int.ofNat_eq_natCast]; omega⟩, Sem.run_bind, hT.size, Result.andThen_ok, Addr.add_mid]
    simp [Nat.add_assoc]
  · unfold Instr.indexAt
    simp only [asIntOf, Sem.run_bind, Sem.run_pure, Result.andThen_ok, run_underlying hu, Instr.sureAddr]
    rw [if_pos ⟨Int.natCast_nonneg _, by simp only [Int.ofNat_eq_natCast]; omega⟩, Sem.run_bind, hT.size, Result.andThen_ok, Addr.add_mid]
    simp [Nat.add_assoc]
theorem indexAddr_s (hE : EOk P E) {t : TypeId} {x ix : Operand} (ho : o.op = .indexAddr t x ix) (h1 : oIndexAddr E tm t x ix h K = some r) : ∃ v, K v h = some r ∧ OpP P o tm v := by
  obtain ⟨c, h2, h3⟩ := evC_spec (K := fun x => evK tm ix fun ix => asN ix fun i => ty E t fun t => _) h1
  obtain ⟨d, h4, h5⟩ := evK_spec h2
  obtain ⟨k, i, rfl, h6⟩ := asN_spec h4
  obtain ⟨ti, ht, h7⟩ := ob_some h6
  obtain ⟨dd, ud, kd⟩ := (hE.ty _ _ ht).und
  have ex : ∀ φ a, Glob φ → On φ tm o.op.operands.toList a → CR φ c (a.eval x) ∧ a.eval ix = .int k (.ofNat i) := fun φ a hg hn => ⟨h3 φ a hg (hn.sub (by simp [ho, Op.operands])), h5 φ a hg (hn.sub (by simp [ho, Op.operands]))⟩
  have fin : ∀ (e : TypeId) (n off len : Nat), atK E e n off len i h K = some r → ∃ te, T.get E.ty e = some te ∧ i < len ∧ K (.c (.ptr n (off + i * te.sz))) h = some r := by
    intro e n off len hh
    obtain ⟨te, hte, hh⟩ := ob_some hh
    obtain ⟨hi, hh⟩ := bf_some hh
    rw [fN_eq] at hh
    exact ⟨te, hte, by simpa [Nat.blt_eq] using hi, hh⟩
  cases hq : ti.d with
  | array len e =>
    rw [hq] at h7 kd
    cases kd
    obtain ⟨n, off, rfl, h8⟩ := withPtr_spec h7
    obtain ⟨te, hte, hi, h9⟩ := fin e n off len h8
    refine ⟨_, h9, fun φ a w hg hn => ?_⟩
    obtain ⟨⟨b, f, S, q, e1⟩, e2⟩ := ex φ a hg hn
    refine ⟨_, ?_, b, f, S, q, rfl⟩
    unfold execOp
    simp only [ho, e1, e2]
    exact run_v ((atK_run (hE.ty _ _ hte) w hi).2 ud)
  | slice e =>
    rw [hq] at h7 kd
    cases kd
    cases c with
    | sl n off len cap z exx =>
      obtain ⟨te, hte, hi, h9⟩ := fin e n off len h7
      refine ⟨_, h9, fun φ a w hg hn => ?_⟩
      obtain ⟨⟨b, f, S, c', q, e1, _⟩, e2⟩ := ex φ a hg hn
      refine ⟨_, ?_, b, f, S, q, rfl⟩
      unfold execOp
      simp only [ho, e1, e2]
      exact run_v ((atK_run (hE.ty _ _ hte) w hi).1 ud c')
    | _ => cases h7
  | _ => rw [hq] at h7; cases h7
theorem index_s (hE : EOk P E) {t : TypeId} {x ix : Operand} (ho : o.op = .index t x ix) (h1 : oIndex E tm t x ix h K = some r) : ∃ v, K v h = some r ∧ OpP P o tm v := by
  obtain ⟨c, h2, h3⟩ := evK_spec (K := fun x => evK tm ix fun ix => asN ix fun i => ty E t fun t => _) h1
  obtain ⟨d, h4, h5⟩ := evK_spec h2
  obtain ⟨k, i, rfl, h6⟩ := asN_spec h4
  obtain ⟨ti, ht, h7⟩ := ob_some h6
  obtain ⟨dd, ud, kd⟩ := (hE.ty _ _ ht).und
  have ex : ∀ φ a, Glob φ → On φ tm o.op.operands.toList a → AR φ c (a.eval x) ∧ a.eval ix = .int k (.ofNat i) := fun φ a hg hn => ⟨h3 φ a hg (hn.sub (by simp [ho, Op.operands])), h5 φ a hg (hn.sub (by simp [ho, Op.operands]))⟩
  cases hq : ti.d with
  | array len e =>
    rw [hq] at h7 kd
    cases kd
    obtain ⟨l, rfl, h8⟩ := withAgg_spec h7
    obtain ⟨te, hte, h8⟩ := ob_some h8
    obtain ⟨hi, h8⟩ := bf_some h8
    obtain ⟨v, h9, h10⟩ := pickK_spec (hE.ty _ _ hte) h8
    refine ⟨v, h9, fun φ a w hg hn => ?_⟩
    obtain ⟨⟨vs, e1, q⟩, e2⟩ := ex φ a hg hn
    obtain ⟨y, h11, h12⟩ := h10 φ vs w q
    refine ⟨y, ?_, h12⟩
    unfold execOp
    simp only [ho, e1, e2]
    refine run_v ?_
    unfold Instr.index
    have hi' : i < len := by simpa [Nat.blt_eq] using hi
    simp only [asIntOf, Sem.run_bind, Sem.run_pure, Result.andThen_ok, run_underlying ud]
    rw [if_pos ⟨Int.natCast_nonneg _, by simp only [Int.ofNat_eq_natCast]; omega⟩, Sem.run_bind, (hE.ty _ _ hte).size, Result.andThen_ok]
    exact h11
  | str =>
    rw [hq] at h7 kd
    cases kd
    obtain ⟨cc, rfl, h8⟩ := withC_spec h7
    obtain ⟨s, rfl, h8⟩ := withS_spec h8
    obtain ⟨by', hb, h8⟩ := ob_some h8
    rw [fN_eq] at h8
    refine ⟨_, h8, fun φ a w hg hn => ⟨.int .u8 by'.toNat, ?_, rfl⟩⟩
    obtain ⟨e1, e2⟩ := ex φ a hg hn
    simp only [AR, CR] at e1
    unfold execOp
    simp only [ho, e1, e2]
    refine run_v ?_
    unfold Instr.index
    simp only [asIntOf, Sem.run_bind, Sem.run_pure, Result.andThen_ok, run_underlying ud]
    rw [if_pos (show (0 : Int) ≤ Int.ofNat i from Int.natCast_nonneg _)]
    have : (Int.ofNat i).toNat = i := rfl
    rw [this, hb]
    rfl
  | _ => rw [hq] at h7; cases h7
theorem nil_s {x : Operand} (ho : o.op = .nilCheck x) (h1 : oNil tm x h K = some r) : ∃ v, K v h = some r ∧ OpP P o tm v := by
  obtain ⟨c, h2, h3⟩ := evC_spec (K := fun x => _) h1
  have key : ∀ v : AV, v = .c c → (∀ φ y, CR φ c y → (∃ a, y = .pointer (some a)) ∨ (∃ f x z, y = .func (.func f) x z) ∨ ∃ l x z, y = .func (.yield l) x z) → OpP P o tm v := by
    rintro v rfl hh φ a w hg hn
    have e := h3 φ a hg (hn.sub (by simp [ho, Op.operands]))
    refine ⟨a.eval x, ?_, e⟩
    unfold execOp
    rcases hh φ _ e with ⟨p, e1⟩ | ⟨f, p, q, e1⟩ | ⟨f, p, q, e1⟩ <;> simp only [ho, e1] <;> rfl
  cases c with
  | ptr n off => exact ⟨_, h2, key _ rfl fun φ y ⟨b, f, S, _, e⟩ => .inl ⟨_, e⟩⟩
  | fn f k =>
    refine ⟨_, h2, key _ rfl fun φ y e => .inr (.inl ?_)⟩
    cases k with
    | zero => exact ⟨_, _, _, e⟩
    | succ k => obtain ⟨cs, _, e⟩ := e; exact ⟨_, _, _, e⟩
  | yl n => exact ⟨_, h2, key _ rfl fun φ y ⟨b, f, S, _, e⟩ => .inr (.inr ⟨_, _, _, e⟩)⟩
  | _ => cases h2
end Go.Ev
