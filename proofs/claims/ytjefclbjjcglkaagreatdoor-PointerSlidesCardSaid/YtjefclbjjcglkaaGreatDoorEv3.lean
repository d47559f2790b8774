/- The evaluator: the operations that look at temporaries alone. -/
import Derived.Test.YtjefclbjjcglkaaGreatDoorEv2
import Derived.IntWalk
set_option linter.unusedVariables false
set_option linter.unusedSimpArgs false
namespace Go.Ev
open Go
variable {R : Type} {P : Program} {E : Env} {tm : TM} {h : H} {K : AV → H → Option R} {r : R} {o : Oper}
/-! ### numbers -/
theorem ltI_eq (x y : Int) : ltI x y = decide (x < y) := by
  cases x with
  | ofNat a =>
    cases y with
    | ofNat b =>
      show Nat.blt a b = _
      rw [Bool.eq_iff_iff, Nat.blt_eq, decide_eq_true_eq]; simp only [Int.ofNat_eq_natCast]; omega
    | negSucc b => show false = _; symm; rw [decide_eq_false_iff_not]; simp only [Int.ofNat_eq_natCast]; omega
  | negSucc a =>
    cases y with
    | ofNat b => show true = _; symm; rw [decide_eq_true_eq]; simp only [Int.ofNat_eq_natCast]; omega
    | negSucc b =>
      show Nat.blt b a = _
      rw [Bool.eq_iff_iff, Nat.blt_eq, decide_eq_true_eq]; omega
theorem eqI_eq (x y : Int) : eqI x y = decide (x = y) := by
  cases x with
  | ofNat a =>
    cases y with
    | ofNat b => show Nat.beq a b = _; rw [Bool.eq_iff_iff, Nat.beq_eq, decide_eq_true_eq]; simp only [Int.ofNat_eq_natCast]; omega
    | negSucc b => show false = _; symm; rw [decide_eq_false_iff_not]; simp only [Int.ofNat_eq_natCast]; omega
  | negSucc a =>
    cases y with
    | ofNat b => show false = _; symm; rw [decide_eq_false_iff_not]; simp only [Int.ofNat_eq_natCast]; omega
    | negSucc b => show Nat.beq a b = _; rw [Bool.eq_iff_iff, Nat.beq_eq, decide_eq_true_eq]; omega
theorem smallI_spec {x : Int} (h : smallI x = true) : -9223372036854775808 ≤ x ∧ x < 9223372036854775808 := by
  cases x with
  | ofNat a => have : Nat.blt a 9223372036854775808 = true := h; rw [Nat.blt_eq] at this; simp only [Int.ofNat_eq_natCast]; omega
  | negSucc a => have : Nat.blt a 9223372036854775808 = true := h; rw [Nat.blt_eq] at this; omega
theorem wrapI_eq (k : IntKind) (x : Int) : wrapI k x = k.wrap x := by
  cases k <;> try rfl
  show bf (smallI x) x (IntKind.wrap .i64 x) = _
  cases hs : smallI x with
  | false => rfl
  | true =>
    obtain ⟨h1, h2⟩ := smallI_spec hs
    rw [bf_true]
    show x = if (true && decide (x % (18446744073709551616 : Int) ≥ (9223372036854775808 : Int))) = true then x % (18446744073709551616 : Int) - (18446744073709551616 : Int) else x % (18446744073709551616 : Int)
    rw [Bool.true_and]
    by_cases hc : x % (18446744073709551616 : Int) ≥ (9223372036854775808 : Int)
    · rw [if_pos (by simpa using hc)]; omega
    · rw [if_neg (by simpa using hc)]; omega
theorem sameI_spec {k k' : IntKind} (h : sameI k k' = true) : k = k' := by
  cases k <;> cases k' <;> first | rfl | (exact absurd h (by decide))
/-- what a number's operation does -/
theorem arI_spec {op : BinOp} {k : IntKind} {x y : Int} {K : CV → Option R} {r : R} (h : arI op k x y K = some r) (xT : TypeId) (k' : IntKind) (hk : bf (isShift op) true (sameI k k') = true) :
    ∃ c, K c = some r ∧ ∀ φ w, ∃ v, (binOp op xT (.int k x) (.int k' y)).run P w = .ok v w ∧ CR φ c v := by
  have hkk : isShift op = false → k = k' := fun hs => by rw [hs] at hk; exact sameI_spec hk
  cases op with
  | add => rw [show arI .add k x y K = fI (wrapI k (Int.add x y)) fun n => K (.i k n) from rfl, fI_eq, wrapI_eq] at h; obtain rfl := hkk rfl; exact ⟨_, h, fun φ w => ⟨_, by simp [binOp, Op.intArith] <;> rfl, rfl⟩⟩
  | sub => rw [show arI .sub k x y K = fI (wrapI k (Int.sub x y)) fun n => K (.i k n) from rfl, fI_eq, wrapI_eq] at h; obtain rfl := hkk rfl; exact ⟨_, h, fun φ w => ⟨_, by simp [binOp, Op.intArith] <;> rfl, rfl⟩⟩
  | mul => rw [show arI .mul k x y K = fI (wrapI k (Int.mul x y)) fun n => K (.i k n) from rfl, fI_eq, wrapI_eq] at h; obtain rfl := hkk rfl; exact ⟨_, h, fun φ w => ⟨_, by simp [binOp, Op.intArith] <;> rfl, rfl⟩⟩
  | quo =>
    rw [show arI .quo k x y K = bf (eqI y 0) none (fI (wrapI k (x.tdiv y)) fun n => K (.i k n)) from rfl, fI_eq, wrapI_eq, eqI_eq] at h
    obtain ⟨h0, h⟩ := bf_none h
    obtain rfl := hkk rfl
    exact ⟨_, h, fun φ w => ⟨_, by simp at h0; simp [binOp, Op.intDiv, h0] <;> rfl, rfl⟩⟩
  | rem =>
    rw [show arI .rem k x y K = bf (eqI y 0) none (fI (x.tmod y) fun n => K (.i k n)) from rfl, fI_eq, eqI_eq] at h
    obtain ⟨h0, h⟩ := bf_none h
    obtain rfl := hkk rfl
    exact ⟨_, h, fun φ w => ⟨_, by simp at h0; simp [binOp, Op.intDiv, h0] <;> rfl, rfl⟩⟩
  | shl =>
    rw [show arI .shl k x y K = bf (ltI y 0) none (fI (k.wrap (x * 2 ^ (min y.toNat k.bits))) fun n => K (.i k n)) from rfl, fI_eq, ltI_eq] at h
    obtain ⟨h0, h⟩ := bf_none h
    exact ⟨_, h, fun φ w => ⟨_, by simp at h0; simp [binOp, Op.shift, show ¬ y < 0 by omega] <;> rfl, rfl⟩⟩
  | shr =>
    rw [show arI .shr k x y K = bf (ltI y 0) none (fI (x.fdiv (2 ^ (min y.toNat k.bits))) fun n => K (.i k n)) from rfl, fI_eq, ltI_eq] at h
    obtain ⟨h0, h⟩ := bf_none h
    exact ⟨_, h, fun φ w => ⟨_, by simp at h0; simp [binOp, Op.shift, show ¬ y < 0 by omega] <;> rfl, rfl⟩⟩
  | eql => rw [show arI .eql k x y K = fB (eqI x y) fun c => K (.b c) from rfl, fB_eq, eqI_eq] at h; obtain rfl := hkk rfl; exact ⟨_, h, fun φ w => ⟨_, by simp [binOp, Op.intCmp] <;> rfl, by simp [CR, Bool.beq_eq_decide_eq]⟩⟩
  | neq => rw [show arI .neq k x y K = fB (eqI x y) fun c => fB (not c) fun c => K (.b c) from rfl, fB_eq, fB_eq, eqI_eq] at h; obtain rfl := hkk rfl; exact ⟨_, h, fun φ w => ⟨_, by simp [binOp, Op.intCmp] <;> rfl, by simp [CR, bne, Bool.beq_eq_decide_eq]⟩⟩
  | lss => rw [show arI .lss k x y K = fB (ltI x y) fun c => K (.b c) from rfl, fB_eq, ltI_eq] at h; obtain rfl := hkk rfl; exact ⟨_, h, fun φ w => ⟨_, by simp [binOp, Op.intCmp] <;> rfl, rfl⟩⟩
  | leq => rw [show arI .leq k x y K = fB (ltI y x) fun c => fB (not c) fun c => K (.b c) from rfl, fB_eq, fB_eq, ltI_eq] at h; obtain rfl := hkk rfl; exact ⟨_, h, fun φ w => ⟨_, by simp [binOp, Op.intCmp] <;> rfl, by simp only [CR]; congr 1; rw [Bool.eq_iff_iff]; simp⟩⟩
  | gtr => rw [show arI .gtr k x y K = fB (ltI y x) fun c => K (.b c) from rfl, fB_eq, ltI_eq] at h; obtain rfl := hkk rfl; exact ⟨_, h, fun φ w => ⟨_, by simp [binOp, Op.intCmp] <;> rfl, rfl⟩⟩
  | geq => rw [show arI .geq k x y K = fB (ltI x y) fun c => fB (not c) fun c => K (.b c) from rfl, fB_eq, fB_eq, ltI_eq] at h; obtain rfl := hkk rfl; exact ⟨_, h, fun φ w => ⟨_, by simp [binOp, Op.intCmp] <;> rfl, by simp only [CR]; congr 1; rw [Bool.eq_iff_iff]; simp⟩⟩
  | _ => cases h
theorem eq_run {xT : TypeId} {d : TypeDesc} (hu : P.underlying xT = some d) {x y : Value} {b : Bool} (w : World)
    (h : ∀ n, (Op.equalIn (n + 1) xT x y).run P w = .ok b w) : (Op.equal xT x y).run P w = .ok b w := by
  unfold Op.equal
  obtain ⟨n, hn⟩ : ∃ n, Op.maxDepth = n + 1 := ⟨9999, rfl⟩
  rw [hn]; exact h n
theorem boolI_spec {op : BinOp} {x y : Bool} {K : CV → Option R} {r : R} (h : boolI op x y K = some r) (xT : TypeId) (hu : P.underlying xT = some .bool) :
    ∃ c, K c = some r ∧ ∀ φ w, ∃ v, (binOp op xT (.bool x) (.bool y)).run P w = .ok v w ∧ CR φ c v := by
  have he : ∀ w, (Op.equal xT (.bool x) (.bool y)).run P w = .ok (x == y) w := fun w => eq_run hu w fun n => by rw [Op.equalIn, Sem.run_bind, run_underlying hu]; rfl
  cases op with
  | eql =>
    rw [show boolI .eql x y K = fB (x == y) fun c => K (.b c) from rfl, fB_eq] at h
    exact ⟨_, h, fun φ w => ⟨.bool (x == y), by show (do pure (Value.bool (← Op.equal xT (.bool x) (.bool y))) : Sem Value).run P w = _; rw [Sem.run_bind, he]; rfl, rfl⟩⟩
  | neq =>
    rw [show boolI .neq x y K = fB (x != y) fun c => K (.b c) from rfl, fB_eq] at h
    exact ⟨_, h, fun φ w => ⟨.bool (!(x == y)), by show (do pure (Value.bool (!(← Op.equal xT (.bool x) (.bool y)))) : Sem Value).run P w = _; rw [Sem.run_bind, he]; rfl, rfl⟩⟩
  | _ => cases h
theorem strI_spec {op : BinOp} {x y : ByteArray} {c : Bool} (h : strI op x y = some c) (xT : TypeId) (w : World) : (binOp op xT (.string x) (.string y)).run P w = .ok (.bool c) w := by
  cases op <;> first | (cases h; done) | (cases h; simp [binOp, Op.stringOp])
/-! ### nil -/
/-- a value that can be nil: what it is, is it nil -/
inductive NilV : Nat → Bool → Value → Prop where
  | ptr (p : Option Addr) : NilV 1 p.isNone (.pointer p)
  | sl (p : Option Addr) (n c : Nat) : NilV 2 p.isNone (.slice p n c)
  | mp (p : Option Nat) : NilV 3 p.isNone (.map p)
  | nf : NilV 4 true .nilFunc
  | fn (f : Fn) (x y : Array Value) : NilV 4 false (.func f x y)
theorem nilV_of {x : CV} {a : Bool} (h : isNil x = some a) {φ : Ph} {v : Value} (hv : CR φ x v) : NilV (nilC x) a v := by
  cases x <;> first
    | (cases h; done)
    | (cases h; cases hv; first | exact .ptr none | exact .sl none 0 0 | exact .mp none | exact .nf)
    | skip
  · cases h; obtain ⟨b, f, S, _, rfl⟩ := hv; exact .ptr (some _)
  · cases h; obtain ⟨b, f, S, c, _, rfl, _⟩ := hv; exact .sl (some _) _ _
  · cases h; obtain ⟨b, f, S, _, rfl⟩ := hv; exact .mp (some _)
  · rename_i f c
    cases h
    cases c with
    | zero => cases hv; exact .fn _ _ _
    | succ c => obtain ⟨cs, _, rfl⟩ := hv; exact .fn _ _ _
  · cases h; obtain ⟨b, f, S, _, rfl⟩ := hv; exact .fn _ _ _
theorem nilV_eq {t : TypeId} {d : TypeDesc} (hu : P.underlying t = some d) {td : TD} (hk : TDok td d) {k : Nat} (htd : nilT td = k) {a b : Bool} {v u : Value} (hv : NilV k a v) (hw : NilV k b u) (hab : bf a true b = true) (w : World) :
    (Op.equal t v u).run P w = .ok (bf a b false) w := by
  refine eq_run hu w fun n => ?_
  rw [Op.equalIn, Sem.run_bind, run_underlying hu, Result.andThen_ok]
  cases hv with
  | ptr p =>
    cases td <;> first | cases htd | skip
    cases hk
    cases hw with
    | ptr q => cases p <;> cases q <;> first | rfl | cases hab
  | sl p n c =>
    cases td <;> first | cases htd | skip
    cases hk
    cases hw with
    | sl q => cases p <;> cases q <;> first | rfl | cases hab
  | mp p =>
    cases td <;> first | cases htd | skip
    cases hk
    cases hw with
    | mp q => cases p <;> cases q <;> first | rfl | cases hab
  | nf =>
    cases td <;> first | cases htd | skip
    obtain ⟨x, y, z, rfl⟩ := hk
    cases hw <;> rfl
  | fn f x y =>
    cases td <;> first | cases htd | skip
    obtain ⟨x, y, z, rfl⟩ := hk
    cases hw <;> first | rfl | cases hab
theorem nilV_guard {k : Nat} {a : Bool} {v : Value} (hv : NilV k a v) (op : BinOp) (t : TypeId) (o p : Operand) (u : Value) (w : World) : (eqGuard op t o p v u).run P w = .ok () w := by
  cases hv <;> cases op <;> rfl
theorem nilI_spec {op : BinOp} {a b : Bool} {K : CV → Option R} {r : R} (h : nilI op a b K = some r) : bf a true b = true ∧ ((op = .eql ∧ K (.b (bf a b false)) = some r) ∨ (op = .neq ∧ K (.b (!(bf a b false))) = some r)) := by
  cases op with
  | eql =>
    rw [show nilI .eql a b K = bf (bf a true b) (fB (bf a b false) fun c => K (.b c)) none from rfl, fB_eq] at h
    obtain ⟨h1, h2⟩ := bf_some h
    exact ⟨h1, .inl ⟨rfl, h2⟩⟩
  | neq =>
    rw [show nilI .neq a b K = bf (bf a true b) (fB (bf a b false) fun c => fB (not c) fun c => K (.b c)) none from rfl, fB_eq, fB_eq] at h
    obtain ⟨h1, h2⟩ := bf_some h
    exact ⟨h1, .inr ⟨rfl, h2⟩⟩
  | _ => cases h
theorem modOk_spec {q : Int} (va : Nat → Int) : ∀ {l : List (Int × Int × Int)} {i : Nat}, modOk q l = true → rng va i l → 0 ≤ lin va i l ∧ q ∣ lin va i l
  | [], i, _, _ => ⟨Int.le_refl _, 0, by simp [lin]⟩
  | t :: l, i, h, hr => by
    obtain ⟨h1, h2⟩ := bf_and (show bf (bf (ltI t.1 0) false (bf (ltI t.2.1 0) false (eqI (Int.emod t.1 q) 0))) (modOk q l) false = true from h)
    obtain ⟨⟨r1, r2⟩, r3⟩ := hr
    obtain ⟨k1, k2⟩ := modOk_spec va h2 r3
    have e1 : ltI t.1 0 = false := by cases hq : ltI t.1 0 <;> rw [hq] at h1 <;> first | rfl | cases h1
    rw [e1, bf_false] at h1
    have e2 : ltI t.2.1 0 = false := by cases hq : ltI t.2.1 0 <;> rw [hq] at h1 <;> first | rfl | cases h1
    rw [e2, bf_false, eqI_eq, decide_eq_true_eq] at h1
    rw [ltI_eq, decide_eq_false_iff_not] at e1 e2
    have hd : q ∣ t.1 := Int.dvd_of_emod_eq_zero h1
    refine ⟨?_, Int.dvd_add (Int.dvd_trans hd (Int.dvd_mul_right _ _)) k2⟩
    have : 0 ≤ t.1 * va i := Int.mul_nonneg (by omega) (by omega)
    show 0 ≤ t.1 * va i + lin va (i + 1) l
    omega
theorem remY_spec {op : BinOp} {k : IntKind} {c q : Int} {l : List (Int × Int × Int)} {K : CV → Option R} {r : R} (h : remY op k c l q K = some r) (t : TypeId) :
    ∃ x, K x = some r ∧ ∀ φ w, rng φ.va 0 l → ∃ z, (binOp op t (.int k (c + lin φ.va 0 l)) (.int k q)).run P w = .ok z w ∧ CR φ x z := by
  cases op with
  | rem =>
    obtain ⟨h1, h2⟩ := bf_some (show bf (bf (ltI 0 q) (bf (ltI c 0) false (modOk q l)) false) (fI (Int.emod c q) fun n => K (.i k n)) none = some r from h)
    rw [fI_eq] at h2
    obtain ⟨h3, h4⟩ := bf_and h1
    have e2 : ltI c 0 = false := by cases hq : ltI c 0 <;> rw [hq] at h4 <;> first | rfl | cases h4
    rw [e2, bf_false] at h4
    rw [ltI_eq, decide_eq_false_iff_not] at e2
    rw [ltI_eq, decide_eq_true_eq] at h3
    refine ⟨_, h2, fun φ w hr => ?_⟩
    obtain ⟨k1, k2⟩ := modOk_spec φ.va h4 hr
    obtain ⟨x, h5, h6⟩ := arI_spec (P := P) (op := .rem) (k := k) (x := c + lin φ.va 0 l) (y := q) (K := fun x => some x) (r := .i k ((c + lin φ.va 0 l).tmod q)) (by
      show bf (eqI q 0) none (fI ((c + lin φ.va 0 l).tmod q) fun n => some (CV.i k n)) = _
      rw [eqI_eq, show decide (q = 0) = false from decide_eq_false (by omega), bf_false, fI_eq]) t k (by simp [sameI]; rfl)
    cases h5
    obtain ⟨z, h7, h8⟩ := h6 φ w
    refine ⟨z, h7, ?_⟩
    have e : (c + lin φ.va 0 l).tmod q = Int.emod c q := by
      rw [Int.tmod_eq_emod_of_nonneg (by omega)]
      obtain ⟨m, hm⟩ := k2
      rw [hm, Int.add_mul_emod_self_left]
      rfl
    rw [e] at h8
    exact h8
  | _ => cases h
/-! ### numbers that are not known -/
theorem fP_eq (t : Int × Int × Int) (K : Int → Int → Int → Option R) : fP t K = K t.1 t.2.1 t.2.2 := by obtain ⟨a, b, c⟩ := t; rfl
theorem addL_spec : ∀ {l m : List (Int × Int × Int)} {K : List (Int × Int × Int) → Option R} {r : R}, addL l m K = some r → ∃ x, K x = some r ∧ ∀ va i, lin va i x = lin va i l + lin va i m ∧ (rng va i l → rng va i m → rng va i x)
  | [], m, K, r, h => ⟨m, h, fun va i => ⟨by simp [lin], fun _ hm => hm⟩⟩
  | t :: l, [], K, r, h => ⟨t :: l, h, fun va i => ⟨by simp [lin], fun hl _ => hl⟩⟩
  | t :: l, u :: m, K, r, h => by
    have h' : fP t (fun a lo hi => fP u fun b _ _ => fI (Int.add a b) fun c => addL l m fun x => K ((c, lo, hi) :: x)) = some r := h
    rw [fP_eq, fP_eq, fI_eq] at h'
    obtain ⟨x, h1, h2⟩ := addL_spec (K := fun x => K (_ :: x)) h'
    refine ⟨_, h1, fun va i => ?_⟩
    obtain ⟨h3, h4⟩ := h2 va (i + 1)
    refine ⟨?_, fun hl hm => ⟨hl.1, h4 hl.2 hm.2⟩⟩
    show (t.1 + u.1) * va i + lin va (i + 1) x = t.1 * va i + lin va (i + 1) l + (u.1 * va i + lin va (i + 1) m)
    rw [h3, Int.add_mul]; omega
theorem mulL_spec {s : Int} : ∀ {l : List (Int × Int × Int)} {K : List (Int × Int × Int) → Option R} {r : R}, mulL s l K = some r → ∃ x, K x = some r ∧ ∀ va i, lin va i x = s * lin va i l ∧ (rng va i l → rng va i x)
  | [], K, r, h => ⟨[], h, fun va i => ⟨by simp [lin], fun h => h⟩⟩
  | t :: l, K, r, h => by
    have h' : fP t (fun a lo hi => fI (Int.mul s a) fun c => mulL s l fun x => K ((c, lo, hi) :: x)) = some r := h
    rw [fP_eq, fI_eq] at h'
    obtain ⟨x, h1, h2⟩ := mulL_spec (K := fun x => K (_ :: x)) h'
    refine ⟨_, h1, fun va i => ?_⟩
    obtain ⟨h3, h4⟩ := h2 va (i + 1)
    refine ⟨?_, fun hl => ⟨hl.1, h4 hl.2⟩⟩
    show s * t.1 * va i + lin va (i + 1) x = s * (t.1 * va i + lin va (i + 1) l)
    rw [h3, Int.mul_add, Int.mul_assoc]
theorem quoL_spec {s : Int} : ∀ {l : List (Int × Int × Int)} {K : List (Int × Int × Int) → Option R} {r : R}, dvdL s l = true → quoL s l K = some r → ∃ x, K x = some r ∧ ∀ va i, s * lin va i x = lin va i l ∧ (rng va i l → rng va i x)
  | [], K, r, _, h => ⟨[], h, fun va i => ⟨by simp [lin], fun h => h⟩⟩
  | t :: l, K, r, hd, h => by
    obtain ⟨d1, d2⟩ := bf_and (show bf (eqI (Int.emod t.1 s) 0) (dvdL s l) false = true from hd)
    have h' : fP t (fun a lo hi => fI (Int.tdiv a s) fun c => quoL s l fun x => K ((c, lo, hi) :: x)) = some r := h
    rw [fP_eq, fI_eq] at h'
    obtain ⟨x, h1, h2⟩ := quoL_spec (K := fun x => K (_ :: x)) d2 h'
    rw [eqI_eq, decide_eq_true_eq] at d1
    have hm : s * t.1.tdiv s = t.1 := Int.mul_tdiv_cancel' (Int.dvd_of_emod_eq_zero d1)
    refine ⟨_, h1, fun va i => ?_⟩
    obtain ⟨h3, h4⟩ := h2 va (i + 1)
    refine ⟨?_, fun hl => ⟨hl.1, h4 hl.2⟩⟩
    show s * (t.1.tdiv s * va i + lin va (i + 1) x) = t.1 * va i + lin va (i + 1) l
    rw [Int.mul_add, h3, ← Int.mul_assoc, hm]
theorem lbL_spec (va : Nat → Int) : ∀ {l : List (Int × Int × Int)} {i : Nat}, rng va i l → lbL l ≤ lin va i l
  | [], i, _ => Int.le_refl _
  | t :: l, i, ⟨⟨h1, h2⟩, h3⟩ => by
    have ih := lbL_spec va h3
    show t.1 * (bf (ltI t.1 0) t.2.2 t.2.1) + lbL l ≤ t.1 * va i + lin va (i + 1) l
    have : t.1 * (bf (ltI t.1 0) t.2.2 t.2.1) ≤ t.1 * va i := by
      rw [ltI_eq]
      by_cases hc : t.1 < 0
      · rw [decide_eq_true hc, bf_true]; exact Int.mul_le_mul_of_nonpos_left (by omega) h2
      · rw [decide_eq_false hc, bf_false]; exact Int.mul_le_mul_of_nonneg_left h1 (by omega)
    omega
theorem ubL_spec (va : Nat → Int) : ∀ {l : List (Int × Int × Int)} {i : Nat}, rng va i l → lin va i l ≤ ubL l
  | [], i, _ => Int.le_refl _
  | t :: l, i, ⟨⟨h1, h2⟩, h3⟩ => by
    have ih := ubL_spec va h3
    show t.1 * va i + lin va (i + 1) l ≤ t.1 * (bf (ltI t.1 0) t.2.1 t.2.2) + ubL l
    have : t.1 * va i ≤ t.1 * (bf (ltI t.1 0) t.2.1 t.2.2) := by
      rw [ltI_eq]
      by_cases hc : t.1 < 0
      · rw [decide_eq_true hc, bf_true]; exact Int.mul_le_mul_of_nonpos_left (by omega) h1
      · rw [decide_eq_false hc, bf_false]; exact Int.mul_le_mul_of_nonneg_left h2 (by omega)
    omega
theorem no0_spec (va : Nat → Int) : ∀ {l : List (Int × Int × Int)} {i : Nat}, no0 l = true → lin va i l = 0
  | [], i, _ => rfl
  | t :: l, i, h => by
    obtain ⟨h1, h2⟩ := bf_and (show bf (eqI t.1 0) (no0 l) false = true from h)
    rw [eqI_eq, decide_eq_true_eq] at h1
    show t.1 * va i + lin va (i + 1) l = 0
    rw [h1, no0_spec va h2]; omega
theorem dvdL_spec {q : Int} (va : Nat → Int) : ∀ {l : List (Int × Int × Int)} {i : Nat}, dvdL q l = true → q ∣ lin va i l
  | [], i, _ => ⟨0, by simp [lin]⟩
  | t :: l, i, h => by
    obtain ⟨h1, h2⟩ := bf_and (show bf (eqI (Int.emod t.1 q) 0) (dvdL q l) false = true from h)
    rw [eqI_eq, decide_eq_true_eq] at h1
    exact Int.dvd_add (Int.dvd_trans (Int.dvd_of_emod_eq_zero h1) (Int.dvd_mul_right _ _)) (dvdL_spec va h2)
theorem geY_spec {va : Nat → Int} {c : Int} {l : List (Int × Int × Int)} {i : Nat} (h : geY c l = true) (hr : rng va i l) : 0 ≤ c + lin va i l := by
  have h' : bf (ltI (c + lbL l) 0) false true = true := h
  have h1 := lbL_spec va hr
  rw [ltI_eq] at h'
  by_cases hc : c + lbL l < 0
  · rw [decide_eq_true hc] at h'; cases h'
  · omega
theorem bf_or {a b : Bool} (h : bf a true b = true) : a = true ∨ b = true := by cases a; exact .inr h; exact .inl rfl
theorem geA_spec {va : Nat → Int} {c : Int} {l : List (Int × Int × Int)} (h : geA c l = true) (hr : rng va 0 l) (hv : va 2 = va 0 - va 1) : 0 ≤ c + lin va 0 l := by
  rcases bf_or (show bf (geY c l) true _ = true from h) with h | h
  · exact geY_spec h hr
  · rcases l with _ | ⟨t, _ | ⟨u, _ | ⟨v, q⟩⟩⟩
    · cases h
    · cases h
    · cases h
    · obtain ⟨r0, r1, r2, r3⟩ := hr
      have e : lin va 0 (t :: u :: v :: q) = t.1 * va 0 + (u.1 * va 1 + (v.1 * va 2 + lin va 3 q)) := rfl
      rw [e]
      rcases bf_or (show bf (geY c ((0, t.2) :: (Int.add t.1 u.1, u.2) :: (Int.add v.1 t.1, v.2) :: q)) true (geY c ((Int.add t.1 u.1, t.2) :: (0, u.2) :: (Int.sub v.1 u.1, v.2) :: q)) = true from h) with h | h
      · have h1 := geY_spec (va := va) (i := 0) h ⟨r0, r1, r2, r3⟩
        have h2 : 0 ≤ c + (0 * va 0 + ((t.1 + u.1) * va 1 + ((v.1 + t.1) * va 2 + lin va 3 q))) := h1
        have e0 : t.1 * va 0 = t.1 * va 1 + t.1 * va 2 := by rw [← Int.mul_add]; congr 1; omega
        rw [Int.add_mul, Int.add_mul] at h2
        omega
      · have h1 := geY_spec (va := va) (i := 0) h ⟨r0, r1, r2, r3⟩
        have h2 : 0 ≤ c + ((t.1 + u.1) * va 0 + (0 * va 1 + ((v.1 - u.1) * va 2 + lin va 3 q))) := h1
        have e0 : u.1 * va 1 = u.1 * va 0 - u.1 * va 2 := by rw [← Int.mul_sub]; congr 1; omega
        rw [Int.add_mul, Int.sub_mul] at h2
        omega
theorem wrap_in : ∀ {k : IntKind} {n : Int}, minI k ≤ n → n ≤ maxI k → k.wrap n = n
  | .i8, n, h, j => IntWalk.i8_in n ⟨h, j⟩
  | .i16, n, h, j => IntWalk.i16_in n ⟨h, j⟩
  | .i32, n, h, j => IntWalk.i32_in n ⟨h, j⟩
  | .i64, n, h, j => IntWalk.i64_in n ⟨h, j⟩
  | .u8, n, h, j => IntWalk.u8_in n ⟨h, j⟩
  | .u16, n, h, j => IntWalk.u16_in n ⟨h, j⟩
  | .u32, n, h, j => IntWalk.u32_in n ⟨h, j⟩
  | .u64, n, h, j => IntWalk.u64_in n ⟨h, j⟩
def Rel (va : Nat → Int) (l : List (Int × Int × Int)) : Prop := rng va 0 l ∧ va 2 = va 0 - va 1
theorem normY_spec {k : IntKind} {c : Int} {l : List (Int × Int × Int)} {K : CV → Option R} {r : R} (h : normY k c l K = some r) : ∃ x, K x = some r ∧ ∀ φ : Ph, Rel φ.va l → CR φ x (.int k (c + lin φ.va 0 l)) := by
  have h' : bf (no0 l) (K (.i k c)) (K (.y k c l)) = some r := h
  cases hn : no0 l with
  | true => rw [hn, bf_true] at h'; exact ⟨_, h', fun φ _ => by show Value.int k (c + lin φ.va 0 l) = .int k c; rw [no0_spec φ.va hn, Int.add_zero]⟩
  | false => rw [hn, bf_false] at h'; exact ⟨_, h', fun φ hr => ⟨rfl, hr.1, hr.2⟩⟩
theorem mkY_spec {k : IntKind} {c : Int} {l : List (Int × Int × Int)} {K : CV → Option R} {r : R} (h : mkY k c l K = some r) : ∃ x, K x = some r ∧ ∀ φ : Ph, Rel φ.va l → k.wrap (c + lin φ.va 0 l) = c + lin φ.va 0 l ∧ CR φ x (.int k (c + lin φ.va 0 l)) := by
  obtain ⟨h1, h⟩ := bf_none (show bf (ltI (c + lbL l) (minI k)) none (bf (ltI (maxI k) (c + ubL l)) none (normY k c l K)) = some r from h)
  obtain ⟨h2, h⟩ := bf_none h
  rw [ltI_eq, decide_eq_false_iff_not] at h1 h2
  obtain ⟨x, h3, h4⟩ := normY_spec h
  refine ⟨x, h3, fun φ hr => ⟨wrap_in ?_ ?_, h4 φ hr⟩⟩
  · have := lbL_spec φ.va hr.1; omega
  · have := ubL_spec φ.va hr.1; omega
theorem subY_spec {c d : Int} {l m : List (Int × Int × Int)} {K : Int → List (Int × Int × Int) → Option R} {r : R} (h : subY c l d m K = some r) : ∃ e q, K e q = some r ∧ ∀ va, rng va 0 l → rng va 0 m → rng va 0 q ∧ e + lin va 0 q = (c + lin va 0 l) - (d + lin va 0 m) := by
  obtain ⟨x, h1, h2⟩ := mulL_spec (show mulL (-1) m (fun m => addL l m fun l => fI (Int.sub c d) fun c => K c l) = some r from h)
  obtain ⟨z, h3, h4⟩ := addL_spec h1
  rw [fI_eq] at h3
  refine ⟨_, _, h3, fun va hl hm => ?_⟩
  obtain ⟨e1, e2⟩ := h2 va 0
  obtain ⟨e3, e4⟩ := h4 va 0
  refine ⟨e4 hl (e2 hm), ?_⟩
  show (c - d) + lin va 0 z = _
  rw [e3, e1]; omega
theorem decY_spec {p q : Bool} {K : CV → Option R} {r : R} (h : decY p q K = some r) : (p = true ∧ K (.b true) = some r) ∨ (q = true ∧ K (.b false) = some r) := by
  have h' : bf p (K (.b true)) (bf q (K (.b false)) none) = some r := h
  cases p with
  | true => exact .inl ⟨rfl, h'⟩
  | false => obtain ⟨h1, h2⟩ := bf_some (show bf q (K (.b false)) none = some r from h'); exact .inr ⟨h1, h2⟩
theorem cmpY_spec {op : BinOp} {e : Int} {q n : List (Int × Int × Int)} {K : CV → Option R} {r : R} (h : cmpY op e q n K = some r) : ∃ b, K (.b b) = some r ∧ ∀ (va : Nat → Int) (X Y : Int) (k : IntKind), Rel va q → rng va 0 n → lin va 0 n = - lin va 0 q → X - Y = e + lin va 0 q → arI op k X Y (fun x => some x) = some (.b b) := by
  cases op with
  | lss =>
    rcases decY_spec (show decY (geA (-1 - e) n) (geA e q) K = some r from h) with ⟨h1, h2⟩ | ⟨h1, h2⟩
    · refine ⟨_, h2, fun va X Y k hq hn e1 e2 => ?_⟩
      have := geA_spec h1 hn hq.2
      show fB (ltI X Y) (fun c => some (CV.b c)) = _
      rw [fB_eq, ltI_eq, decide_eq_true (by omega)]
    · refine ⟨_, h2, fun va X Y k hq hn e1 e2 => ?_⟩
      have := geA_spec h1 hq.1 hq.2
      show fB (ltI X Y) (fun c => some (CV.b c)) = _
      rw [fB_eq, ltI_eq, decide_eq_false (by omega)]
  | leq =>
    rcases decY_spec (show decY (geA (-e) n) (geA (e - 1) q) K = some r from h) with ⟨h1, h2⟩ | ⟨h1, h2⟩
    · refine ⟨_, h2, fun va X Y k hq hn e1 e2 => ?_⟩
      have := geA_spec h1 hn hq.2
      show fB (ltI Y X) (fun c => fB (not c) fun c => some (CV.b c)) = _
      rw [fB_eq, fB_eq, ltI_eq, decide_eq_false (by omega)]; rfl
    · refine ⟨_, h2, fun va X Y k hq hn e1 e2 => ?_⟩
      have := geA_spec h1 hq.1 hq.2
      show fB (ltI Y X) (fun c => fB (not c) fun c => some (CV.b c)) = _
      rw [fB_eq, fB_eq, ltI_eq, decide_eq_true (by omega)]; rfl
  | gtr =>
    rcases decY_spec (show decY (geA (e - 1) q) (geA (-e) n) K = some r from h) with ⟨h1, h2⟩ | ⟨h1, h2⟩
    · refine ⟨_, h2, fun va X Y k hq hn e1 e2 => ?_⟩
      have := geA_spec h1 hq.1 hq.2
      show fB (ltI Y X) (fun c => some (CV.b c)) = _
      rw [fB_eq, ltI_eq, decide_eq_true (by omega)]
    · refine ⟨_, h2, fun va X Y k hq hn e1 e2 => ?_⟩
      have := geA_spec h1 hn hq.2
      show fB (ltI Y X) (fun c => some (CV.b c)) = _
      rw [fB_eq, ltI_eq, decide_eq_false (by omega)]
  | geq =>
    rcases decY_spec (show decY (geA e q) (geA (-1 - e) n) K = some r from h) with ⟨h1, h2⟩ | ⟨h1, h2⟩
    · refine ⟨_, h2, fun va X Y k hq hn e1 e2 => ?_⟩
      have := geA_spec h1 hq.1 hq.2
      show fB (ltI X Y) (fun c => fB (not c) fun c => some (CV.b c)) = _
      rw [fB_eq, fB_eq, ltI_eq, decide_eq_false (by omega)]; rfl
    · refine ⟨_, h2, fun va X Y k hq hn e1 e2 => ?_⟩
      have := geA_spec h1 hn hq.2
      show fB (ltI X Y) (fun c => fB (not c) fun c => some (CV.b c)) = _
      rw [fB_eq, fB_eq, ltI_eq, decide_eq_true (by omega)]; rfl
  | eql =>
    have h' : bf (no0 q) (fB (eqI e 0) fun b => K (.b b)) (decY false (bf (geA (e - 1) q) true (geA (-1 - e) n)) K) = some r := h
    cases hn0 : no0 q with
    | true =>
      rw [hn0, bf_true, fB_eq, eqI_eq] at h'
      refine ⟨_, h', fun va X Y k hq hn e1 e2 => ?_⟩
      show fB (eqI X Y) (fun c => some (CV.b c)) = _
      rw [no0_spec va hn0] at e2
      rw [fB_eq, eqI_eq]
      congr 2
      exact decide_eq_decide.2 (by omega)
    | false =>
      rw [hn0, bf_false] at h'
      rcases decY_spec h' with ⟨h1, _⟩ | ⟨h1, h2⟩
      · cases h1
      · refine ⟨_, h2, fun va X Y k hq hn e1 e2 => ?_⟩
        show fB (eqI X Y) (fun c => some (CV.b c)) = _
        rw [fB_eq, eqI_eq]
        rcases bf_or h1 with h1 | h1
        · have := geA_spec h1 hq.1 hq.2
          rw [decide_eq_false (by omega)]
        · have := geA_spec h1 hn hq.2
          rw [decide_eq_false (by omega)]
  | neq =>
    have h' : bf (no0 q) (fB (eqI e 0) fun b => fB (not b) fun b => K (.b b)) (decY (bf (geA (e - 1) q) true (geA (-1 - e) n)) false K) = some r := h
    cases hn0 : no0 q with
    | true =>
      rw [hn0, bf_true, fB_eq, fB_eq, eqI_eq] at h'
      refine ⟨_, h', fun va X Y k hq hn e1 e2 => ?_⟩
      show fB (eqI X Y) (fun c => fB (not c) fun c => some (CV.b c)) = _
      rw [no0_spec va hn0] at e2
      rw [fB_eq, fB_eq, eqI_eq]
      congr 3
      exact decide_eq_decide.2 (by omega)
    | false =>
      rw [hn0, bf_false] at h'
      rcases decY_spec h' with ⟨h1, h2⟩ | ⟨h1, _⟩
      · refine ⟨_, h2, fun va X Y k hq hn e1 e2 => ?_⟩
        show fB (eqI X Y) (fun c => fB (not c) fun c => some (CV.b c)) = _
        rw [fB_eq, fB_eq, eqI_eq]
        rcases bf_or h1 with h1 | h1
        · have := geA_spec h1 hq.1 hq.2
          rw [decide_eq_false (by omega)]; rfl
        · have := geA_spec h1 hn hq.2
          rw [decide_eq_false (by omega)]; rfl
      · cases h1
  | _ => cases h
theorem fin {op : BinOp} {k : IntKind} {X Y : Int} {y z : CV} {φ : Ph} (h : arI op k X Y (fun x => some x) = some y) (hs : isShift op = false) (xT : TypeId) (w : World) (hz : ∀ v, CR φ y v → CR φ z v) :
    ∃ v, (binOp op xT (.int k X) (.int k Y)).run P w = .ok v w ∧ CR φ z v := by
  obtain ⟨c, h1, h2⟩ := arI_spec (P := P) h xT k (by rw [hs]; cases k <;> rfl)
  cases h1
  obtain ⟨v, h3, h4⟩ := h2 φ w
  exact ⟨v, h3, hz v h4⟩
theorem arY_spec {op : BinOp} {k : IntKind} {c d : Int} {l m : List (Int × Int × Int)} {K : CV → Option R} {r : R} (h : arY op k c l d m K = some r) (xT : TypeId) :
    ∃ x, K x = some r ∧ ∀ φ w, rng φ.va 0 l → rng φ.va 0 m → φ.va 2 = φ.va 0 - φ.va 1 → ∃ v, (binOp op xT (.int k (c + lin φ.va 0 l)) (.int k (d + lin φ.va 0 m))).run P w = .ok v w ∧ CR φ x v := by
  have hcmp : ∀ op, isShift op = false → subY c l d m (fun c l => mulL (-1) l fun n => cmpY op c l n K) = some r → ∃ x, K x = some r ∧ ∀ φ w, rng φ.va 0 l → rng φ.va 0 m → φ.va 2 = φ.va 0 - φ.va 1 → ∃ v, (binOp op xT (.int k (c + lin φ.va 0 l)) (.int k (d + lin φ.va 0 m))).run P w = .ok v w ∧ CR φ x v := by
    intro op hs h
    obtain ⟨e, q, h1, h2⟩ := subY_spec h
    obtain ⟨n, h3, h4⟩ := mulL_spec h1
    obtain ⟨b, h5, h6⟩ := cmpY_spec h3
    refine ⟨_, h5, fun φ w hl hm hv => ?_⟩
    obtain ⟨g1, g2⟩ := h2 φ.va hl hm
    obtain ⟨g3, g4⟩ := h4 φ.va 0
    exact fin (h6 φ.va _ _ k ⟨g1, hv⟩ (g4 g1) (by rw [g3]; omega) g2.symm) hs xT w fun v hv => hv
  have hmk : ∀ {x : List (Int × Int × Int)} {e : Int}, mkY k e x K = some r → ∃ z, K z = some r ∧ ∀ (φ : Ph), Rel φ.va x → ∀ n, n = e + lin φ.va 0 x → ∀ v, CR φ (.i k (wrapI k n)) v → CR φ z v := by
    intro x e h
    obtain ⟨z, h1, h2⟩ := mkY_spec h
    refine ⟨z, h1, fun φ hr n hn v hv => ?_⟩
    obtain ⟨g1, g2⟩ := h2 φ hr
    have hv : v = .int k (wrapI k n) := hv
    rw [hv, wrapI_eq, hn, g1]; exact g2
  cases op with
  | add =>
    obtain ⟨x, h1, h2⟩ := addL_spec (show addL l m (fun l => fI (Int.add c d) fun c => mkY k c l K) = some r from h)
    rw [fI_eq] at h1
    obtain ⟨z, h3, h4⟩ := hmk h1
    refine ⟨z, h3, fun φ w hl hm hv => ?_⟩
    obtain ⟨g1, g2⟩ := h2 φ.va 0
    exact fin (y := .i k (wrapI k ((c + lin φ.va 0 l) + (d + lin φ.va 0 m)))) (by show fI _ _ = _; rw [fI_eq]; rfl) rfl xT w (h4 φ ⟨g2 hl hm, hv⟩ _ (by rw [g1]; show _ = c + d + _; omega))
  | sub =>
    obtain ⟨e, q, h1, h2⟩ := subY_spec (show subY c l d m (fun c l => mkY k c l K) = some r from h)
    obtain ⟨z, h3, h4⟩ := hmk h1
    refine ⟨z, h3, fun φ w hl hm hv => ?_⟩
    obtain ⟨g1, g2⟩ := h2 φ.va hl hm
    exact fin (y := .i k (wrapI k ((c + lin φ.va 0 l) - (d + lin φ.va 0 m)))) (by show fI _ _ = _; rw [fI_eq]; rfl) rfl xT w (h4 φ ⟨g1, hv⟩ _ g2.symm)
  | mul =>
    have h' : bf (no0 m) (mulL d l fun l => fI (Int.mul c d) fun c => mkY k c l K) (bf (no0 l) (mulL c m fun l => fI (Int.mul c d) fun c => mkY k c l K) none) = some r := h
    cases hm0 : no0 m with
    | true =>
      rw [hm0, bf_true] at h'
      obtain ⟨x, h1, h2⟩ := mulL_spec h'
      rw [fI_eq] at h1
      obtain ⟨z, h3, h4⟩ := hmk h1
      refine ⟨z, h3, fun φ w hl hm hv => ?_⟩
      obtain ⟨g1, g2⟩ := h2 φ.va 0
      exact fin (y := .i k (wrapI k ((c + lin φ.va 0 l) * (d + lin φ.va 0 m)))) (by show fI _ _ = _; rw [fI_eq]; rfl) rfl xT w (h4 φ ⟨g2 hl, hv⟩ _ (by rw [g1, no0_spec φ.va hm0, Int.add_zero, Int.add_mul, Int.mul_comm d]; rfl))
    | false =>
      rw [hm0, bf_false] at h'
      obtain ⟨hl0, h'⟩ := bf_some h'
      obtain ⟨x, h1, h2⟩ := mulL_spec h'
      rw [fI_eq] at h1
      obtain ⟨z, h3, h4⟩ := hmk h1
      refine ⟨z, h3, fun φ w hl hm hv => ?_⟩
      obtain ⟨g1, g2⟩ := h2 φ.va 0
      exact fin (y := .i k (wrapI k ((c + lin φ.va 0 l) * (d + lin φ.va 0 m)))) (by show fI _ _ = _; rw [fI_eq]; rfl) rfl xT w (h4 φ ⟨g2 hm, hv⟩ _ (by rw [g1, no0_spec φ.va hl0, Int.add_zero, Int.mul_add]; rfl))
  | quo =>
    obtain ⟨h1, h⟩ := bf_some (show bf (bf (no0 m) (bf (ltI 0 d) (bf (eqI (Int.emod c d) 0) (dvdL d l) false) false) false) (quoL d l fun l => fI (Int.tdiv c d) fun c => mkY k c l K) none = some r from h)
    obtain ⟨hm0, h1⟩ := bf_and h1
    obtain ⟨h2, h1⟩ := bf_and h1
    obtain ⟨h3, h4⟩ := bf_and h1
    rw [ltI_eq, decide_eq_true_eq] at h2
    rw [eqI_eq, decide_eq_true_eq] at h3
    obtain ⟨x, h5, h6⟩ := quoL_spec h4 h
    rw [fI_eq] at h5
    obtain ⟨z, h7, h8⟩ := hmk h5
    refine ⟨z, h7, fun φ w hl hm hv => ?_⟩
    obtain ⟨g1, g2⟩ := h6 φ.va 0
    have e : (c + lin φ.va 0 l).tdiv (d + lin φ.va 0 m) = c.tdiv d + lin φ.va 0 x := by
      rw [no0_spec φ.va hm0, Int.add_zero, ← g1]
      have hc : d * c.tdiv d = c := Int.mul_tdiv_cancel' (Int.dvd_of_emod_eq_zero h3)
      rw [show c + d * lin φ.va 0 x = d * (c.tdiv d + lin φ.va 0 x) by rw [Int.mul_add, hc]]
      exact Int.mul_tdiv_cancel_left _ (by omega)
    exact fin (y := .i k (wrapI k ((c + lin φ.va 0 l).tdiv (d + lin φ.va 0 m)))) (by
      show bf (eqI (d + lin φ.va 0 m) 0) none (fI (wrapI k ((c + lin φ.va 0 l).tdiv (d + lin φ.va 0 m))) fun n => some (CV.i k n)) = _
      rw [no0_spec φ.va hm0, eqI_eq, decide_eq_false (by omega), bf_false, fI_eq]) rfl xT w (h8 φ ⟨g2 hl, hv⟩ _ e)
  | rem =>
    obtain ⟨hm0, h⟩ := bf_some (show bf (no0 m) (bf (bf (ltI 0 d) (bf (eqI (Int.emod c d) 0) (dvdL d l) false) false) (K (.i k 0)) (remY .rem k c l d K)) none = some r from h)
    cases hq : bf (ltI 0 d) (bf (eqI (Int.emod c d) 0) (dvdL d l) false) false with
    | true =>
      rw [hq, bf_true] at h
      obtain ⟨h2, h1⟩ := bf_and hq
      obtain ⟨h3, h4⟩ := bf_and h1
      rw [ltI_eq, decide_eq_true_eq] at h2
      rw [eqI_eq, decide_eq_true_eq] at h3
      refine ⟨_, h, fun φ w hl hm hv => ?_⟩
      have hd : d ∣ c + lin φ.va 0 l := Int.dvd_add (Int.dvd_of_emod_eq_zero h3) (dvdL_spec φ.va h4)
      exact fin (y := .i k ((c + lin φ.va 0 l).tmod (d + lin φ.va 0 m))) (by
        show bf (eqI (d + lin φ.va 0 m) 0) none (fI ((c + lin φ.va 0 l).tmod (d + lin φ.va 0 m)) fun n => some (CV.i k n)) = _
        rw [no0_spec φ.va hm0, eqI_eq, decide_eq_false (by omega), bf_false, fI_eq]) rfl xT w (fun v hv => by
          rw [no0_spec φ.va hm0, Int.add_zero, Int.tmod_eq_zero_of_dvd hd] at hv; exact hv)
    | false =>
      rw [hq, bf_false] at h
      obtain ⟨x, h1, h2⟩ := remY_spec (P := P) h xT
      refine ⟨x, h1, fun φ w hl hm hv => ?_⟩
      rw [no0_spec φ.va hm0, Int.add_zero]
      exact h2 φ w hl
  | eql => exact hcmp _ rfl h
  | neq => exact hcmp _ rfl h
  | lss => exact hcmp _ rfl h
  | leq => exact hcmp _ rfl h
  | gtr => exact hcmp _ rfl h
  | geq => exact hcmp _ rfl h
  | _ => cases h
theorem withY_spec {x : CV} {K : IntKind → Int → List (Int × Int × Int) → Option R} {r : R} (h : withY x K = some r) : ∃ k c l, K k c l = some r ∧ ∀ φ v, CR φ x v → v = .int k (c + lin φ.va 0 l) ∧ rng φ.va 0 l ∧ (isY x = true → φ.va 2 = φ.va 0 - φ.va 1) := by
  cases x with
  | i k n => exact ⟨k, n, [], h, fun φ v hv => ⟨by simp only [lin, Int.add_zero]; exact hv, trivial, fun h => by cases h⟩⟩
  | y k c l => exact ⟨k, c, l, h, fun φ v hv => ⟨hv.1, hv.2.1, fun _ => hv.2.2⟩⟩
  | _ => cases h
theorem binop_spec (hE : EOk P E) {t : TypeId} {op : BinOp} {x y : CV} {K : CV → Option R} {r : R} (h : binop E t op x y K = some r) :
    ∃ c, K c = some r ∧ ∀ φ v u xo yo w, CR φ x v → CR φ y u → ∃ z, (do eqGuard op t xo yo v u; binOp op t v u : Sem Value).run P w = .ok z w ∧ CR φ c z := by
  have hnil : ∀ {x : CV}, (ty E t fun t => bf (bf (Nat.beq (nilT t.d) (nilC x)) (Nat.beq (nilT t.d) (nilC y)) false) (ob (isNil x) fun a => ob (isNil y) fun b => nilI op a b K) none) = some r →
      ∃ c, K c = some r ∧ ∀ φ v u xo yo w, CR φ x v → CR φ y u → ∃ z, (do eqGuard op t xo yo v u; binOp op t v u : Sem Value).run P w = .ok z w ∧ CR φ c z := by
    intro x h
    obtain ⟨ti, ht, h⟩ := ob_some h
    obtain ⟨h1, h⟩ := bf_some h
    obtain ⟨a, ha, h⟩ := ob_some h
    obtain ⟨b, hb, h⟩ := ob_some h
    obtain ⟨hab, h⟩ := nilI_spec h
    have hk : nilT ti.d = nilC x ∧ nilT ti.d = nilC y := by
      cases hq : Nat.beq (nilT ti.d) (nilC x) with
      | false => rw [hq] at h1; cases h1
      | true => rw [hq] at h1; exact ⟨Nat.eq_of_beq_eq_true hq, Nat.eq_of_beq_eq_true h1⟩
    obtain ⟨d, hd, hkd⟩ := (hE.ty t ti ht).und
    have key : ∀ φ v u, CR φ x v → CR φ y u → ∀ w, (Op.equal t v u).run P w = .ok (bf a b false) w := by
      intro φ v u hv hu w
      have hv' := nilV_of ha hv
      have hu' := nilV_of hb hu
      rw [← hk.1] at hv'
      rw [← hk.2] at hu'
      exact nilV_eq hd hkd rfl hv' hu' hab w
    have hop : ∀ φ v u, CR φ x v → CR φ y u → binOp .eql t v u = (do pure (.bool (← Op.equal t v u))) ∧ binOp .neq t v u = (do pure (.bool (!(← Op.equal t v u)))) := by
      intro φ v u hv hu
      have hv' := nilV_of ha hv
      generalize nilC x = k at hv'
      cases hv' <;> exact ⟨rfl, rfl⟩
    rcases h with ⟨rfl, h'⟩ | ⟨rfl, h'⟩
    · refine ⟨_, h', fun φ v u xo yo w hv hu => ⟨.bool (bf a b false), ?_, rfl⟩⟩
      rw [Sem.run_bind, nilV_guard (nilV_of ha hv), Result.andThen_ok, (hop φ v u hv hu).1, Sem.run_bind, key φ v u hv hu]
      rfl
    · refine ⟨_, h', fun φ v u xo yo w hv hu => ⟨.bool (!(bf a b false)), ?_, rfl⟩⟩
      rw [Sem.run_bind, nilV_guard (nilV_of ha hv), Result.andThen_ok, (hop φ v u hv hu).2, Sem.run_bind, key φ v u hv hu]
      rfl
  have hg1 : ∀ (k : IntKind) (n : Int) (u : Value) xo yo w, (eqGuard op t xo yo (.int k n) u).run P w = .ok () w := fun k n u xo yo w => by cases op <;> rfl
  have hg2 : ∀ (k : Bool) (u : Value) xo yo w, (eqGuard op t xo yo (.bool k) u).run P w = .ok () w := fun k u xo yo w => by cases op <;> rfl
  have hg3 : ∀ (k : ByteArray) (u : Value) xo yo w, (eqGuard op t xo yo (.string k) u).run P w = .ok () w := fun k u xo yo w => by cases op <;> rfl
  cases x with
  | i k a =>
    have h' : bf (isY y) (withY y fun k' d m => bf (sameI k k') (arY op k a [] d m K) none) (withI y fun k' b => bf (bf (isShift op) true (sameI k k')) (arI op k a b K) none) = some r := h
    cases hy : isY y with
    | true =>
      rw [hy, bf_true] at h'
      obtain ⟨k', d, m, h', hm⟩ := withY_spec h'
      obtain ⟨h1, h2'⟩ := bf_some h'
      have hk := sameI_spec h1
      subst hk
      obtain ⟨c, h2, h3⟩ := arY_spec (P := P) h2' t
      refine ⟨c, h2, fun φ v u xo yo w hv hu => ?_⟩
      obtain ⟨rfl, m1, m2⟩ := hm φ u hu
      obtain ⟨z, h4, h5⟩ := h3 φ w trivial m1 (m2 hy)
      have hv : v = .int k a := hv
      subst hv
      simp only [lin, Int.add_zero] at h4
      exact ⟨z, by rw [Sem.run_bind, hg1, Result.andThen_ok]; exact h4, h5⟩
    | false =>
      rw [hy, bf_false] at h'
      obtain ⟨k', b, rfl, h⟩ := withI_spec h'
      obtain ⟨h1, h⟩ := bf_some h
      obtain ⟨c, h2, h3⟩ := arI_spec (P := P) h t k' h1
      refine ⟨c, h2, fun φ v u xo yo w hv hu => ?_⟩
      cases hv; cases hu
      obtain ⟨z, h4, h5⟩ := h3 φ w
      exact ⟨z, by rw [Sem.run_bind, hg1, Result.andThen_ok]; exact h4, h5⟩
  | y k c l =>
    obtain ⟨k', d, m, h', hm⟩ := withY_spec (show (withY y fun k' d m => bf (sameI k k') (arY op k c l d m K) none) = some r from h)
    obtain ⟨h1, h2'⟩ := bf_some h'
    have hk := sameI_spec h1
    subst hk
    obtain ⟨x, h2, h3⟩ := arY_spec (P := P) h2' t
    refine ⟨x, h2, fun φ v u xo yo w hv hu => ?_⟩
    obtain ⟨rfl, hr, hrel⟩ := hv
    obtain ⟨rfl, m1, _⟩ := hm φ u hu
    obtain ⟨z, h4, h5⟩ := h3 φ w hr m1 hrel
    exact ⟨z, by rw [Sem.run_bind, hg1, Result.andThen_ok]; exact h4, h5⟩
  | b a =>
    obtain ⟨b, rfl, h⟩ := withB_spec (show (withB y fun b => ty E t fun t => bf (Nat.beq (nilT t.d) 5) (boolI op a b K) none) = some r from h)
    obtain ⟨ti, ht, h⟩ := ob_some h
    obtain ⟨h1, h⟩ := bf_some h
    obtain ⟨d, hd, hkd⟩ := (hE.ty t ti ht).und
    have : ti.d = .bool := by cases hq : ti.d <;> rw [hq] at h1 <;> first | rfl | (exact absurd h1 (by decide)) | cases h1
    rw [this] at hkd
    cases hkd
    obtain ⟨c, h2, h3⟩ := boolI_spec (P := P) h t hd
    refine ⟨c, h2, fun φ v u xo yo w hv hu => ?_⟩
    cases hv; cases hu
    obtain ⟨z, h4, h5⟩ := h3 φ w
    exact ⟨z, by rw [Sem.run_bind, hg2, Result.andThen_ok]; exact h4, h5⟩
  | s a =>
    obtain ⟨b, rfl, h⟩ := withS_spec (show (withS y fun b => ob (strI op a b) fun c => fB c fun c => K (.b c)) = some r from h)
    obtain ⟨c, h1, h⟩ := ob_some h
    rw [fB_eq] at h
    refine ⟨_, h, fun φ v u xo yo w hv hu => ?_⟩
    cases hv; cases hu
    exact ⟨_, by rw [Sem.run_bind, hg3, Result.andThen_ok]; exact strI_spec h1 t w, rfl⟩
  | _ => exact hnil h
end Go.Ev
