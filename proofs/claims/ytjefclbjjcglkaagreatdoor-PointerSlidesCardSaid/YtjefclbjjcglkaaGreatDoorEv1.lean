/- The evaluator: what its values and its heap say of real ones; tries; the lists' tools. -/
import Derived.Test.YtjefclbjjcglkaaGreatDoorEv0
set_option linter.unusedVariables false
set_option linter.unusedSimpArgs false
namespace Go.Ev
open Go
/-! ### the bare tools -/
section
variable {R : Type}
@[simp] theorem bf_true {α : Type} (t e : α) : bf true t e = t := rfl
@[simp] theorem bf_false {α : Type} (t e : α) : bf false t e = e := rfl
theorem bf_some {b : Bool} {x : Option R} {r : R} (h : bf b x none = some r) : b = true ∧ x = some r := by
  cases b with
  | true => exact ⟨rfl, h⟩
  | false => cases h
theorem bf_and {a b : Bool} (h : bf a b false = true) : a = true ∧ b = true := by
  cases a with
  | true => exact ⟨rfl, h⟩
  | false => cases h
theorem bf_none {b : Bool} {x : Option R} {r : R} (h : bf b none x = some r) : b = false ∧ x = some r := by
  cases b with
  | false => exact ⟨rfl, h⟩
  | true => cases h
theorem ob_some {α : Type} {x : Option α} {K : α → Option R} {r : R} (h : ob x K = some r) : ∃ a, x = some a ∧ K a = some r := by
  cases x with
  | some a => exact ⟨a, rfl, h⟩
  | none => cases h
theorem fN_eq (n : Nat) (K : Nat → Option R) : fN n K = K n := by cases n <;> rfl
theorem fI_eq (n : Int) (K : Int → Option R) : fI n K = K n := by
  cases n with
  | ofNat n => exact fN_eq n fun n => K (.ofNat n)
  | negSucc n => exact fN_eq n fun n => K (.negSucc n)
theorem fB_eq (n : Bool) (K : Bool → Option R) : fB n K = K n := by cases n <;> rfl
end
/-! ### tries -/
theorem d4_eq {α : Type} (k : Nat) (a b c d : α) : d4 k a b c d = if k % 4 = 0 then a else if k % 4 = 1 then b else if k % 4 = 2 then c else d := by
  unfold d4
  show (@Nat.rec (fun _ => α) a (fun k _ => @Nat.rec (fun _ => α) b (fun k _ => @Nat.rec (fun _ => α) c (fun _ _ => d) k) k) (k % 4)) = _
  have h : k % 4 < 4 := Nat.mod_lt _ (by decide)
  generalize k % 4 = m at *
  match m, h with
  | 0, _ => rfl
  | 1, _ => rfl
  | 2, _ => rfl
  | 3, _ => rfl
@[simp] theorem T.get_e {α : Type} (k : Nat) : T.get (.e : T α) k = none := rfl
@[simp] theorem T.get_zero {α : Type} (v : Option α) (a b c d : T α) : T.get (.n v a b c d) 0 = v := rfl
theorem T.get_succ {α : Type} (v : Option α) (a b c d : T α) (k : Nat) : T.get (.n v a b c d) (k + 1) = T.get (d4 k a b c d) (k / 4) := by
  have : T.get (.n v a b c d) (k + 1) = d4 k (T.get a) (T.get b) (T.get c) (T.get d) (k / 4) := rfl
  rw [this, d4_eq, d4_eq]
  split
  · rfl
  · split
    · rfl
    · split <;> rfl
theorem div4_inj {j k : Nat} (h : j / 4 = k / 4) (hm : j % 4 = k % 4) : j = k := by omega
theorem T.setK_spec {α R : Type} : ∀ (d : Nat) (t : T α) (k : Nat) (v : Option α) (K : T α → Option R) (r : R), T.setK d t k v K = some r → ∃ t', K t' = some r ∧ ∀ j, t'.get j = if j = k then v else t.get j
  | 0, t, k, v, K, r, h => by cases h
  | d + 1, t, k, v, K, r, h => by
    cases t with
    | e =>
      cases k with
      | zero =>
        refine ⟨.n v .e .e .e .e, h, fun j => ?_⟩
        cases j with
        | zero => simp
        | succ j => rw [T.get_succ, d4_eq]; simp
      | succ k =>
        have h' : T.setK d .e (k / 4) v (d4 k (fun x => K (.n none x .e .e .e)) (fun x => K (.n none .e x .e .e)) (fun x => K (.n none .e .e x .e)) (fun x => K (.n none .e .e .e x))) = some r := h
        obtain ⟨t', h1, h2⟩ := T.setK_spec d _ _ _ _ _ h'
        rw [d4_eq] at h1
        have key : ∀ (a b c x4 : T α), K (.n none a b c x4) = some r → (∀ j, T.get (d4 j a b c x4) (j / 4) = if j = k then v else none) → ∃ t', K t' = some r ∧ ∀ j, t'.get j = if j = k + 1 then v else T.get (.e : T α) j := by
          intro a b c x4 hK hg
          refine ⟨_, hK, fun j => ?_⟩
          cases j with
          | zero => simp
          | succ j => rw [T.get_succ, hg]; simp
        have sub : ∀ j, T.get (if j % 4 = k % 4 then t' else .e) (j / 4) = if j = k then v else none := by
          intro j
          by_cases hm : j % 4 = k % 4
          · rw [if_pos hm, h2]
            by_cases he : j = k
            · subst he; simp
            · rw [if_neg he, if_neg fun h => he (div4_inj h hm)]; rfl
          · rw [if_neg hm, if_neg fun h => hm (by rw [h])]; rfl
        split at h1
        · rename_i e0
          refine key _ _ _ _ h1 fun j => ?_
          rw [← sub j, d4_eq, e0]
          congr 1
          repeat' (first | rfl | omega | split)
        · split at h1
          · rename_i e0
            refine key _ _ _ _ h1 fun j => ?_
            rw [← sub j, d4_eq, e0]
            congr 1
            repeat' (first | rfl | omega | split)
          · split at h1
            · rename_i e0
              refine key _ _ _ _ h1 fun j => ?_
              rw [← sub j, d4_eq, e0]
              congr 1
              repeat' (first | rfl | omega | split)
            · rename_i e1 e2 e3
              have e0 : k % 4 = 3 := by have := Nat.mod_lt k (show 4 > 0 by decide); omega
              refine key _ _ _ _ h1 fun j => ?_
              rw [← sub j, d4_eq, e0]
              congr 1
              have := Nat.mod_lt j (show 4 > 0 by decide)
              repeat' (first | rfl | omega | split)
    | n w a b c x4 =>
      cases k with
      | zero =>
        refine ⟨.n v a b c x4, h, fun j => ?_⟩
        cases j with
        | zero => simp
        | succ j => rw [T.get_succ, if_neg (by omega), T.get_succ]
      | succ k =>
        have h' : T.setK d (d4 k a b c x4) (k / 4) v (d4 k (fun x => K (.n w x b c x4)) (fun x => K (.n w a x c x4)) (fun x => K (.n w a b x x4)) (fun x => K (.n w a b c x))) = some r := h
        obtain ⟨t', h1, h2⟩ := T.setK_spec d _ _ _ _ _ h'
        rw [d4_eq] at h1 h2
        have key : ∀ (a' b' c' e' : T α), K (.n w a' b' c' e') = some r → (∀ j, T.get (d4 j a' b' c' e') (j / 4) = if j = k then v else T.get (d4 j a b c x4) (j / 4)) → ∃ t', K t' = some r ∧ ∀ j, t'.get j = if j = k + 1 then v else T.get (.n w a b c x4) j := by
          intro a' b' c' e' hK hg
          refine ⟨_, hK, fun j => ?_⟩
          cases j with
          | zero => simp
          | succ j => rw [T.get_succ, hg, T.get_succ]; simp
        have sub : ∀ j, T.get (if j % 4 = k % 4 then t' else d4 j a b c x4) (j / 4) = if j = k then v else T.get (d4 j a b c x4) (j / 4) := by
          intro j
          by_cases hm : j % 4 = k % 4
          · rw [if_pos hm, h2]
            by_cases he : j = k
            · subst he; simp
            · rw [if_neg he, if_neg fun h => he (div4_inj h hm), d4_eq, hm]
          · rw [if_neg hm, if_neg fun h => hm (by rw [h])]
        split at h1
        · rename_i e0
          refine key _ _ _ _ h1 fun j => ?_
          rw [← sub j, d4_eq, d4_eq, e0]
          congr 1
          repeat' (first | rfl | omega | split)
        · split at h1
          · rename_i e0
            refine key _ _ _ _ h1 fun j => ?_
            rw [← sub j, d4_eq, d4_eq, e0]
            congr 1
            repeat' (first | rfl | omega | split)
          · split at h1
            · rename_i e0
              refine key _ _ _ _ h1 fun j => ?_
              rw [← sub j, d4_eq, d4_eq, e0]
              congr 1
              repeat' (first | rfl | omega | split)
            · rename_i e1 e2 e3
              have e0 : k % 4 = 3 := by have := Nat.mod_lt k (show 4 > 0 by decide); omega
              refine key _ _ _ _ h1 fun j => ?_
              rw [← sub j, d4_eq, d4_eq, e0]
              congr 1
              have := Nat.mod_lt j (show 4 > 0 by decide)
              repeat' (first | rfl | omega | split)
/-! ### lists -/
section
variable {R α : Type}
theorem takeK_spec : ∀ (l : List α) (n : Nat) (K : List α → Option R) (r : R), takeK l n K = some r → n ≤ l.length ∧ K (l.take n) = some r
  | l, 0, K, r, h => by cases l <;> exact ⟨Nat.zero_le _, h⟩
  | [], n + 1, K, r, h => by cases h
  | a :: l, n + 1, K, r, h => by
    obtain ⟨h1, h2⟩ := takeK_spec l n _ r h
    exact ⟨Nat.succ_le_succ h1, h2⟩
theorem dropK_spec : ∀ (l : List α) (n : Nat) (K : List α → Option R) (r : R), dropK l n K = some r → n ≤ l.length ∧ K (l.drop n) = some r
  | l, 0, K, r, h => by cases l <;> exact ⟨Nat.zero_le _, h⟩
  | [], n + 1, K, r, h => by cases h
  | a :: l, n + 1, K, r, h => by
    obtain ⟨h1, h2⟩ := dropK_spec l n _ r h
    exact ⟨Nat.succ_le_succ h1, h2⟩
theorem partK_spec {l : List α} {off n : Nat} {K : List α → Option R} {r : R} (h : partK l off n K = some r) : off + n ≤ l.length ∧ K ((l.drop off).take n) = some r := by
  obtain ⟨h1, h2⟩ := dropK_spec _ _ _ _ h
  obtain ⟨h3, h4⟩ := takeK_spec _ _ _ _ h2
  rw [List.length_drop] at h3
  exact ⟨by omega, h4⟩
theorem overK_spec : ∀ (l vs : List α) (K : List α → Option R) (r : R), overK l vs K = some r → vs.length ≤ l.length ∧ K (vs ++ l.drop vs.length) = some r
  | l, [], K, r, h => by cases l <;> exact ⟨Nat.zero_le _, h⟩
  | [], v :: vs, K, r, h => by cases h
  | a :: l, v :: vs, K, r, h => by
    obtain ⟨h1, h2⟩ := overK_spec l vs _ r h
    exact ⟨Nat.succ_le_succ h1, h2⟩
theorem putK_spec : ∀ (l : List α) (n : Nat) (vs : List α) (K : List α → Option R) (r : R), putK l n vs K = some r → n + vs.length ≤ l.length ∧ K (l.take n ++ (vs ++ l.drop (n + vs.length))) = some r
  | [], 0, vs, K, r, h => by
    obtain ⟨h1, h2⟩ := overK_spec [] vs K r h
    exact ⟨by simpa using h1, by simpa using h2⟩
  | a :: l, 0, vs, K, r, h => by
    obtain ⟨h1, h2⟩ := overK_spec (a :: l) vs K r h
    exact ⟨by simpa using h1, by simpa using h2⟩
  | [], n + 1, vs, K, r, h => by cases h
  | a :: l, n + 1, vs, K, r, h => by
    obtain ⟨h1, h2⟩ := putK_spec l n vs _ r h
    refine ⟨by simp only [List.length_cons]; omega, ?_⟩
    have : n + 1 + vs.length = (n + vs.length) + 1 := by omega
    rw [this, List.take_succ_cons, List.drop_succ_cons]
    exact h2
theorem appK_eq : ∀ (l m : List α) (K : List α → Option R), appK l m K = K (l ++ m)
  | [], m, K => rfl
  | a :: l, m, K => appK_eq l m fun x => K (a :: x)
def repL (n : Nat) (z : List α) : List α := match n with | 0 => [] | n + 1 => z ++ repL n z
theorem repK_eq : ∀ (n : Nat) (z : List α) (K : List α → Option R), repK n z K = K (repL n z)
  | 0, z, K => rfl
  | n + 1, z, K => by
    have : repK (n + 1) z K = repK n z fun l => appK z l K := rfl
    rw [this, repK_eq n, appK_eq]; rfl
theorem getL_eq : ∀ (l : List α) (n : Nat), getL l n = l[n]?
  | [], n => by cases n <;> rfl
  | a :: l, 0 => rfl
  | a :: l, n + 1 => by rw [List.getElem?_cons_succ]; exact getL_eq l n
theorem lenN_eq : ∀ l : List α, lenN l = l.length
  | [] => rfl
  | a :: l => congrArg Nat.succ (lenN_eq l)
end
/-! ### values -/
inductive A2 {α β : Type} (P : α → β → Prop) : List α → List β → Prop where
  | nil : A2 P [] []
  | cons {a : α} {b : β} {l : List α} {m : List β} (h : P a b) (t : A2 P l m) : A2 P (a :: l) (b :: m)
namespace A2
variable {α β : Type} {P Q : α → β → Prop}
theorem len {l : List α} {m : List β} (h : A2 P l m) : l.length = m.length := by
  induction h with
  | nil => rfl
  | cons _ _ ih => simp [ih]
theorem mono (k : ∀ a b, P a b → Q a b) {l : List α} {m : List β} (h : A2 P l m) : A2 Q l m := by
  induction h with
  | nil => exact .nil
  | cons h _ ih => exact .cons (k _ _ h) ih
theorem get {l : List α} {m : List β} (h : A2 P l m) {i : Nat} {a : α} (hi : l[i]? = some a) : ∃ b, m[i]? = some b ∧ P a b := by
  induction h generalizing i with
  | nil => simp at hi
  | cons h _ ih =>
    cases i with
    | zero => simp at hi; subst hi; exact ⟨_, by simp, h⟩
    | succ i => simp at hi; obtain ⟨b, h1, h2⟩ := ih hi; exact ⟨b, by simpa using h1, h2⟩
theorem app {l : List α} {m : List β} (h : A2 P l m) {l' : List α} {m' : List β} (h' : A2 P l' m') : A2 P (l ++ l') (m ++ m') := by
  induction h with
  | nil => exact h'
  | cons h _ ih => exact .cons h ih
theorem take {l : List α} {m : List β} (h : A2 P l m) (n : Nat) : A2 P (l.take n) (m.take n) := by
  induction h generalizing n with
  | nil => simp; exact .nil
  | cons h _ ih =>
    cases n with
    | zero => simp; exact .nil
    | succ n => simp; exact .cons h (ih n)
theorem drop {l : List α} {m : List β} (h : A2 P l m) (n : Nat) : A2 P (l.drop n) (m.drop n) := by
  induction h generalizing n with
  | nil => simp; exact .nil
  | cons h t ih =>
    cases n with
    | zero => simp; exact .cons h t
    | succ n => simp; exact ih n
theorem mem {l : List α} {m : List β} (h : A2 P l m) {b : β} (hb : b ∈ m) : ∃ a, a ∈ l ∧ P a b := by
  induction h with
  | nil => simp at hb
  | cons h _ ih =>
    rcases List.mem_cons.1 hb with rfl | hb
    · exact ⟨_, by simp, h⟩
    · obtain ⟨a, h1, h2⟩ := ih hb; exact ⟨a, by simp [h1], h2⟩
end A2
/-- where a named row lies: block, the row's beginning, the block's cells -/
structure Ph where
  blk : Nat → Option (Nat × Nat × Nat)
  cap : Nat → Option (Array Value)
  va : Nat → Int
/-- a sum of variables, from the i-th on; their bounds -/
def lin (va : Nat → Int) : Nat → List (Int × Int × Int) → Int
  | _, [] => 0
  | i, t :: l => t.1 * va i + lin va (i + 1) l
def rng (va : Nat → Int) : Nat → List (Int × Int × Int) → Prop
  | _, [] => True
  | i, t :: l => (t.2.1 ≤ va i ∧ va i ≤ t.2.2) ∧ rng va (i + 1) l
structure Ph.le (φ ψ : Ph) : Prop where
  b : ∀ n x, φ.blk n = some x → ψ.blk n = some x
  c : ∀ n x, φ.cap n = some x → ψ.cap n = some x
  v : ψ.va = φ.va
theorem Ph.le.refl (φ : Ph) : φ.le φ := ⟨fun _ _ h => h, fun _ _ h => h, rfl⟩
theorem Ph.le.trans {φ ψ χ : Ph} (h : φ.le ψ) (k : ψ.le χ) : φ.le χ := ⟨fun n x q => k.b n x (h.b n x q), fun n x q => k.c n x (h.c n x q), k.v.trans h.v⟩
def CR (φ : Ph) : CV → Value → Prop
  | .b x, v => v = .bool x
  | .i k n, v => v = .int k n
  | .y k c l, v => v = .int k (c + lin φ.va 0 l) ∧ rng φ.va 0 l ∧ φ.va 2 = φ.va 0 - φ.va 1
  | .s x, v => v = .string x
  | .nilp, v => v = .pointer none
  | .ptr n o, v => ∃ b f S, φ.blk n = some (b, f, S) ∧ v = .pointer (some ⟨b, f + o, none⟩)
  | .nils, v => v = .slice none 0 0
  | .emp, v => ∃ a c, v = .slice a 0 c
  | .sl n o l c z e, v => ∃ b f S c', φ.blk n = some (b, f, S) ∧ v = .slice (some ⟨b, f + o, none⟩) l c' ∧ c ≤ c' ∧ (e = true → c' = c) ∧ f + o + c' * z ≤ S
  | .nilm, v => v = .map none
  | .mp n, v => ∃ b f S, φ.blk n = some (b, f, S) ∧ v = .map (some b)
  | .nilf, v => v = .nilFunc
  | .fn f 0, v => v = .func (.func f) #[] #[]
  | .fn f (n + 1), v => ∃ cs, φ.cap n = some cs ∧ v = .func (.func f) #[] cs
  | .yl n, v => ∃ b f S, φ.blk n = some (b, f, S) ∧ v = .func (.yield b) #[] #[]
theorem CR.mono {φ ψ : Ph} (h : φ.le ψ) : ∀ (x : CV) (v : Value), CR φ x v → CR ψ x v
  | .b _, _, q => q
  | .i _ _, _, q => q
  | .y _ _ _, _, q => by unfold CR at q ⊢; rw [h.v]; exact q
  | .s _, _, q => q
  | .nilp, _, q => q
  | .ptr _ _, _, ⟨b, f, S, q, e⟩ => ⟨b, f, S, h.b _ _ q, e⟩
  | .nils, _, q => q
  | .emp, _, q => q
  | .sl _ _ _ _ _ _, _, ⟨b, f, S, c, q, e⟩ => ⟨b, f, S, c, h.b _ _ q, e⟩
  | .nilm, _, q => q
  | .mp _, _, ⟨b, f, S, q, e⟩ => ⟨b, f, S, h.b _ _ q, e⟩
  | .nilf, _, q => q
  | .fn _ 0, _, q => q
  | .fn _ (_ + 1), _, ⟨cs, q, e⟩ => ⟨cs, h.c _ _ q, e⟩
  | .yl _, _, ⟨b, f, S, q, e⟩ => ⟨b, f, S, h.b _ _ q, e⟩
theorem CR.one {φ : Ph} : ∀ {x : CV} {v : Value}, CR φ x v → v.oneCell' = true ∧ v.cells = #[v]
  | .b _, _, q => by cases q; exact ⟨rfl, rfl⟩
  | .i _ _, _, q => by cases q; exact ⟨rfl, rfl⟩
  | .y _ _ _, _, ⟨q, _⟩ => by subst q; exact ⟨rfl, rfl⟩
  | .s _, _, q => by cases q; exact ⟨rfl, rfl⟩
  | .nilp, _, q => by cases q; exact ⟨rfl, rfl⟩
  | .ptr _ _, _, ⟨b, f, S, q, e⟩ => by subst e; exact ⟨rfl, rfl⟩
  | .nils, _, q => by cases q; exact ⟨rfl, rfl⟩
  | .emp, _, ⟨a, c, q⟩ => by cases q; exact ⟨rfl, rfl⟩
  | .sl _ _ _ _ _ _, _, ⟨b, f, S, c, q, e, _⟩ => by subst e; exact ⟨rfl, rfl⟩
  | .nilm, _, q => by cases q; exact ⟨rfl, rfl⟩
  | .mp _, _, ⟨b, f, S, q, e⟩ => by subst e; exact ⟨rfl, rfl⟩
  | .nilf, _, q => by cases q; exact ⟨rfl, rfl⟩
  | .fn _ 0, _, q => by cases q; exact ⟨rfl, rfl⟩
  | .fn _ (_ + 1), _, ⟨cs, q, e⟩ => by subst e; exact ⟨rfl, rfl⟩
  | .yl _, _, ⟨b, f, S, q, e⟩ => by subst e; exact ⟨rfl, rfl⟩
def SR (φ : Ph) : AS → Value → Prop
  | .c x, v => CR φ x v
  | .agg l, v => ∃ vs : List Value, v = .agg vs.toArray ∧ A2 (CR φ) l vs
theorem SR.mono {φ ψ : Ph} (h : φ.le ψ) : ∀ (x : AS) (v : Value), SR φ x v → SR ψ x v
  | .c x, v, q => CR.mono h x v q
  | .agg l, v, ⟨vs, e, q⟩ => ⟨vs, e, q.mono (CR.mono h)⟩
def AR (φ : Ph) : AV → Value → Prop
  | .u, v => v = undef
  | .c x, v => CR φ x v
  | .agg l, v => ∃ vs : List Value, v = .agg vs.toArray ∧ A2 (CR φ) l vs
  | .tup l, v => ∃ vs : List Value, v = .tuple vs.toArray ∧ A2 (SR φ) l vs
theorem AR.mono {φ ψ : Ph} (h : φ.le ψ) : ∀ (x : AV) (v : Value), AR φ x v → AR ψ x v
  | .u, v, q => q
  | .c x, v, q => CR.mono h x v q
  | .agg l, v, ⟨vs, e, q⟩ => ⟨vs, e, q.mono (CR.mono h)⟩
  | .tup l, v, ⟨vs, e, q⟩ => ⟨vs, e, q.mono (SR.mono h)⟩
/-- the cells of a value of one or more cells -/
theorem flat_spec {R : Type} {x : AV} {K : List CV → Option R} {r : R} (h : withFlat x K = some r) : ∃ l, K l = some r ∧ ∀ φ v, AR φ x v → A2 (CR φ) l v.cells.toList ∧ v.cells.size = l.length ∧ ∀ y ∈ v.cells.toList, y.oneCell' = true := by
  cases x with
  | u => cases h
  | tup l => cases h
  | c x =>
    refine ⟨[x], h, fun φ v q => ?_⟩
    have := CR.one q
    rw [this.2]
    exact ⟨.cons q .nil, rfl, fun y hy => by simp at hy; subst hy; exact this.1⟩
  | agg l =>
    refine ⟨l, h, fun φ v q => ?_⟩
    obtain ⟨vs, rfl, q⟩ := q
    refine ⟨q, by simp [Value.cells, q.len], fun y hy => ?_⟩
    obtain ⟨a, _, ha⟩ := q.mem hy
    exact (CR.one ha).1
theorem withC_spec {R : Type} {x : AV} {K : CV → Option R} {r : R} (h : withC x K = some r) : ∃ c, x = .c c ∧ K c = some r := by cases x <;> first | cases h | exact ⟨_, rfl, h⟩
theorem withAgg_spec {R : Type} {x : AV} {K : List CV → Option R} {r : R} (h : withAgg x K = some r) : ∃ c, x = .agg c ∧ K c = some r := by cases x <;> first | cases h | exact ⟨_, rfl, h⟩
theorem withTup_spec {R : Type} {x : AV} {K : List AS → Option R} {r : R} (h : withTup x K = some r) : ∃ c, x = .tup c ∧ K c = some r := by cases x <;> first | cases h | exact ⟨_, rfl, h⟩
theorem withPtr_spec {R : Type} {x : CV} {K : Nat → Nat → Option R} {r : R} (h : withPtr x K = some r) : ∃ n o, x = .ptr n o ∧ K n o = some r := by cases x <;> first | cases h | exact ⟨_, _, rfl, h⟩
theorem withB_spec {R : Type} {x : CV} {K : Bool → Option R} {r : R} (h : withB x K = some r) : ∃ n, x = .b n ∧ K n = some r := by cases x <;> first | cases h | exact ⟨_, rfl, h⟩
theorem withI_spec {R : Type} {x : CV} {K : IntKind → Int → Option R} {r : R} (h : withI x K = some r) : ∃ k n, x = .i k n ∧ K k n = some r := by cases x <;> first | cases h | exact ⟨_, _, rfl, h⟩
theorem withS_spec {R : Type} {x : CV} {K : ByteArray → Option R} {r : R} (h : withS x K = some r) : ∃ n, x = .s n ∧ K n = some r := by cases x <;> first | cases h | exact ⟨_, rfl, h⟩
theorem withMp_spec {R : Type} {x : CV} {K : Nat → Option R} {r : R} (h : withMp x K = some r) : ∃ n, x = .mp n ∧ K n = some r := by cases x <;> first | cases h | exact ⟨_, rfl, h⟩
theorem withFn_spec {R : Type} {x : CV} {K : Nat → Nat → Option R} {r : R} (h : withFn x K = some r) : ∃ n m, x = .fn n m ∧ K n m = some r := by cases x <;> first | cases h | exact ⟨_, _, rfl, h⟩
theorem toS_spec {R : Type} {x : AV} {K : AS → Option R} {r : R} (h : toS x K = some r) : ∃ s, K s = some r ∧ ∀ φ v, AR φ x v ↔ SR φ s v := by
  cases x with
  | u => cases h
  | tup l => cases h
  | c x => exact ⟨_, h, fun _ _ => Iff.rfl⟩
  | agg l => exact ⟨_, h, fun _ _ => Iff.rfl⟩
theorem ofS_spec {R : Type} {x : AS} {K : AV → Option R} {r : R} (h : ofS x K = some r) : ∃ s, K s = some r ∧ ∀ φ v, SR φ x v ↔ AR φ s v := by
  cases x with
  | c x => exact ⟨_, h, fun _ _ => Iff.rfl⟩
  | agg l => exact ⟨_, h, fun _ _ => Iff.rfl⟩
theorem asN_spec {R : Type} {x : AV} {K : Nat → Option R} {r : R} (h : asN x K = some r) : ∃ k n, x = .c (.i k (.ofNat n)) ∧ K n = some r := by
  obtain ⟨c, rfl, h⟩ := withC_spec h
  obtain ⟨k, n, rfl, h⟩ := withI_spec h
  cases n with
  | ofNat n => exact ⟨k, n, rfl, h⟩
  | negSucc n => cases h
end Go.Ev
