/- The draws over the plain functions. -/
import Derived.Test.YtojkihhnioeggaaDoorSqV
import Derived.WalkKit
import Derived.WalkSpells
import Derived.WalkLawsBesides
import Derived.Deep.QuietTactic
import Derived.BigQuiet
import Derived.BigRegion
import Derived.Lib.Hide
import Derived.Deep.RegionWith
set_option linter.unusedSimpArgs false
set_option linter.unusedVariables false
set_option linter.unusedSimpArgs false
set_option linter.unusedVariables false
namespace Go.Proofs.YtojkihhnioeggaaDoor.S
open Go Go.Bm
/-- it answers, and with something of P -/
def Tot {α : Type} (x : Option α) (P : α → Prop) : Prop := ∃ a, x = some a ∧ P a
theorem tot_some {α : Type} {a : α} {P : α → Prop} (h : P a) : Tot (some a) P := ⟨a, rfl, h⟩
theorem tot_bind {α β : Type} {x : Option α} {f : α → Option β} {P : α → Prop} {Q : β → Prop} (h : Tot x P) (k : ∀ a, P a → Tot (f a) Q) : Tot (x.bind f) Q := by
  obtain ⟨a, rfl, ha⟩ := h
  exact k a ha
theorem tot_ite {α : Type} {b : Bool} {x y : Option α} {P : α → Prop} (h : b = true → Tot x P) (k : b = false → Tot y P) : Tot (if b = true then x else y) P := by
  cases b
  · exact k rfl
  · exact h rfl
theorem tot_mono {α : Type} {x : Option α} {P Q : α → Prop} (h : Tot x P) (k : ∀ a, P a → Q a) : Tot x Q := let ⟨a, h1, h2⟩ := h; ⟨a, h1, k a h2⟩
theorem tot_withJ1 {A β : Type} {j : A → Option β} {b : (A → Option β) → Option β} (R : A → Prop) {Q : β → Prop} (hj : ∀ a, R a → Tot (j a) Q) (hb : ∀ j', (∀ a, R a → Tot (j' a) Q) → Tot (b j') Q) : Tot (withJ j b) Q := hb j hj
theorem tot_withJ2 {A B β : Type} {j : A → B → Option β} {b : (A → B → Option β) → Option β} (R : A → B → Prop) {Q : β → Prop} (hj : ∀ a c, R a c → Tot (j a c) Q) (hb : ∀ j', (∀ a c, R a c → Tot (j' a c) Q) → Tot (b j') Q) : Tot (withJ j b) Q := hb j hj
theorem tot_withJ3 {A B C β : Type} {j : A → B → C → Option β} {b : (A → B → C → Option β) → Option β} (R : A → B → C → Prop) {Q : β → Prop} (hj : ∀ a c d, R a c d → Tot (j a c d) Q) (hb : ∀ j', (∀ a c d, R a c d → Tot (j' a c d) Q) → Tot (b j') Q) : Tot (withJ j b) Q := hb j hj
theorem tot_withJ5 {A B C D E β : Type} {j : A → B → C → D → E → Option β} {b : (A → B → C → D → E → Option β) → Option β} (R : A → B → C → D → E → Prop) {Q : β → Prop} (hj : ∀ a c d e f, R a c d e f → Tot (j a c d e f) Q) (hb : ∀ j', (∀ a c d e f, R a c d e f → Tot (j' a c d e f) Q) → Tot (b j') Q) : Tot (withJ j b) Q := hb j hj
theorem tot_idx {α : Type} {l : List α} {i : Int} (h0 : 0 ≤ i) (h1 : i < l.length) : Tot (idx l i) fun x => x ∈ l := idx_some l i h0 h1
theorem tot_inb0 {n : Nat} (h : 0 < n) : Tot (inb 0 n) fun k => k = 0 := by
  unfold inb
  rw [if_pos ⟨Int.le_refl _, by omega⟩]
  exact tot_some rfl
theorem tot_get {α : Type} {l : List α} {k : Nat} (h : k < l.length) : Tot (l[k]?) fun x => x ∈ l := by
  rw [List.getElem?_eq_getElem h]
  exact tot_some (List.getElem_mem h)
theorem tot_apd {α : Type} {b : Nat} {l els : List α} (h : l.length + els.length ≤ 100000) (hb : b ≤ 1000) : Tot (apd b l els) fun r => r = l ++ els := by
  unfold apd
  have : (l.length + els.length) * b ≤ 100000 * 1000 := Nat.mul_le_mul h hb
  rw [if_pos ⟨by omega, by omega⟩]
  exact tot_some rfl
structure SrcOk (p : GSrc) : Prop where
  lo : 0 ≤ p.At
  hi : p.At ≤ p.L.length
  len : p.L.length ≤ 4000
theorem src_N (n : Nat) {p : GSrc} {k : Int} (h : SrcOk p) (hk : k ≤ 1000000000000) : Tot (Src_N n p k) fun y => 0 ≤ y.1 ∧ (1 ≤ k → y.1 < k) ∧ SrcOk y.2 := by
  unfold Src_N
  refine tot_ite (fun _ => tot_some ⟨Int.le_refl _, fun h => by omega, h⟩) fun hc => ?_
  simp only [Bool.or_eq_false_iff, decide_eq_false_iff_not] at hc
  obtain ⟨c1, c2⟩ := hc
  have h0 := h.lo
  have h1 := h.hi
  have h2 := h.len
  refine tot_bind (tot_idx h0 (by omega)) fun e _ => ?_
  have hnz : nz k = some k := by unfold nz; rw [if_neg (by omega)]
  rw [hnz]
  refine tot_bind (P := fun d => d = k) (tot_some rfl) fun d hd => ?_
  unfold withJ
  have b1 : Int.tmod e k < k := Int.tmod_lt_of_pos e (by omega)
  have b2 : -k < Int.tmod e k := Int.lt_tmod_of_pos e (by omega)
  have hw : IntKind.wrap .i64 (p.At + 1) = p.At + 1 := Go.Bm.wrap_small (by omega) (by omega)
  have ok : SrcOk (GSrc.mk p.L (IntKind.wrap .i64 (p.At + 1))) := by
    rw [hw]
    exact ⟨by show 0 ≤ p.At + 1; omega, by show p.At + 1 ≤ (p.L.length : Int); omega, h2⟩
  refine tot_ite (fun ht => ?_) fun ht => ?_
  · simp only [decide_eq_true_eq] at ht
    have hw2 : IntKind.wrap .i64 (Int.tmod e k + k) = Int.tmod e k + k := Go.Bm.wrap_small (by omega) (by omega)
    exact tot_some ⟨by show 0 ≤ IntKind.wrap .i64 (Int.tmod e k + k); omega, fun _ => by show IntKind.wrap .i64 (Int.tmod e k + k) < k; omega, ok⟩
  · simp only [decide_eq_false_iff_not] at ht
    exact tot_some ⟨by show 0 ≤ Int.tmod e k; omega, fun _ => b1, ok⟩
theorem src_Range (n : Nat) {p : GSrc} {lo hi : Int} (h : SrcOk p) (h1 : -1000000 ≤ lo) (h2 : hi ≤ 1000000000) (h3 : lo ≤ hi) : Tot (Src_Range n p lo hi) fun y => lo ≤ y.1 ∧ y.1 ≤ hi ∧ SrcOk y.2 := by
  unfold Src_Range
  have e1 : IntKind.wrap .i64 (hi - lo) = hi - lo := Go.Bm.wrap_small (by omega) (by omega)
  have e2 : IntKind.wrap .i64 (hi - lo + 1) = hi - lo + 1 := Go.Bm.wrap_small (by omega) (by omega)
  rw [e1, e2]
  refine tot_bind (src_N n h (by omega)) fun y ⟨a, b, c⟩ => ?_
  have b := b (by omega)
  have e3 : IntKind.wrap .i64 (lo + y.1) = lo + y.1 := by
    rw [IntKind.wrap_i64]
    omega
  rw [e3]
  exact tot_some ⟨by show lo ≤ lo + y.1; omega, by show lo + y.1 ≤ hi; omega, c⟩
theorem src_New (n : Nat) (l : List Int) : Tot (base_New n l) SrcOk := by
  unfold base_New withJ
  refine tot_ite (fun hc => ?_) fun hc => ?_
  · simp only [decide_eq_true_eq] at hc
    have : subl l 0 4000 = some ((l.take (4000 : Int).toNat).drop (0 : Int).toNat) := by
      unfold subl
      rw [if_pos ⟨Int.le_refl _, by decide, by omega⟩]
    rw [this]
    exact tot_some ⟨Int.le_refl _, by simp, by simp; omega⟩
  · simp only [decide_eq_false_iff_not] at hc
    exact tot_some ⟨Int.le_refl _, by simp, by show l.length ≤ 4000; omega⟩
theorem src_Name (n : Nat) {p : GSrc} (h : SrcOk p) : Tot (Src_Name n p) fun y => SrcOk y.2 := by
  unfold Src_Name
  refine tot_bind (src_N n h (by decide)) fun y ⟨a, b, c⟩ => ?_
  have b := b (by decide)
  exact tot_bind (tot_idx a b) fun e _ => tot_some c
theorem tdiv2 (v : Int) : (0 ≤ v → Int.tdiv v 2 = v / 2) ∧ (v < 0 → Int.tdiv v 2 ≤ 0 ∧ v ≤ Int.tdiv v 2) := by
  refine ⟨fun h => Int.tdiv_eq_ediv_of_nonneg h, fun h => ?_⟩
  have e : Int.tdiv v 2 = -(Int.tdiv (-v) 2) := by rw [Int.neg_tdiv, Int.neg_neg]
  have e2 : Int.tdiv (-v) 2 = (-v) / 2 := Int.tdiv_eq_ediv_of_nonneg (by omega)
  omega
theorem decl_loop (v3 : Int) (j : Int → Option (GDecl × GSrc)) (y7 : Int × GSrc) {Q : GDecl × GSrc → Prop} (hj : ∀ v, Tot (j v) Q) : ∀ (k n : Nat) (v : Int), v < 2 ^ (k + 1) → -1000 ≤ v → k < n → k ≤ 40 → Tot (Src_decl_L0 v3 j y7 n v) Q
  | k, 0, v, _, _, h, _ => by omega
  | k, n + 1, v, hv, hl, hn, hk => by
    rw [Src_decl_L0]
    obtain ⟨c, _, hc⟩ := rng n v3 v
    rw [hc]
    refine tot_bind (P := fun b => b = c) (tot_some rfl) fun b hb => ?_
    refine tot_ite (fun _ => ?_) fun _ => hj _
    have hp : (2 : Int) ^ (k + 1) ≤ 2 ^ 41 := by
      have : (2 : Nat) ^ (k + 1) ≤ 2 ^ 41 := Nat.pow_le_pow_right (by decide) (by omega)
      exact_mod_cast this
    obtain ⟨t1, t2⟩ := tdiv2 v
    have ht : IntKind.wrap .i64 (Int.tdiv v 2) = Int.tdiv v 2 := by
      rw [IntKind.wrap_i64]
      omega
    rw [ht]
    refine tot_ite (fun _ => hj _) fun hm => ?_
    simp only [decide_eq_false_iff_not] at hm
    cases k with
    | zero => exfalso; have : v < 2 := hv; unfold maxI at hm; split at hm <;> omega
    | succ k =>
      have e : maxI 0 (Int.tdiv v 2) = Int.tdiv v 2 := by unfold maxI at hm ⊢; split at hm <;> split <;> omega
      rw [e] at hm ⊢
      have e2 : (2 : Int) ^ (k + 1 + 1) = 2 * 2 ^ (k + 1) := by rw [Int.pow_succ]; omega
      exact decl_loop v3 j y7 hj k n _ (by omega) (by omega) (by omega) (by omega)
theorem src_decl (n : Nat) (hn : 20 ≤ n) {p : GSrc} (st : Int) (h : SrcOk p) : Tot (Src_decl n p st) fun y => SrcOk y.2 := by
  unfold Src_decl
  refine tot_bind (src_N n h (by decide)) fun y ⟨a, b, c⟩ => ?_
  unfold withJ
  have key : ∀ v3 : Int, Tot ((Src_N n y.2 8).bind fun (y4 : (Int × GSrc)) => (if (y4.1 == 0) = true then (Src_N n y4.2 4).bind fun (y5 : (Int × GSrc)) => (idx [(⟨#[105, 110, 107]⟩ : ByteArray), (⟨#[112, 97, 112, 101, 114]⟩ : ByteArray), (⟨#[115, 112, 97, 99, 101]⟩ : ByteArray), (⟨#[110, 111, 110, 101]⟩ : ByteArray)] y5.1).bind fun (e6 : ByteArray) => some ((GDecl.mk v3 1 0 e6), y5.2) else (if (y4.1 == 1) = true then some ((GDecl.mk v3 2 0 (⟨#[]⟩ : ByteArray)), y4.2) else (if (y4.1 == 2) = true then some ((GDecl.mk v3 3 0 (⟨#[]⟩ : ByteArray)), y4.2) else (Src_N n y4.2 (List.length [0, 1, 2, 3, 4, 8, 12, 20, 40, 90, 300, (-1 : Int)] : Int)).bind fun (y7 : (Int × GSrc)) => (idx [0, 1, 2, 3, 4, 8, 12, 20, 40, 90, 300, (-1 : Int)] y7.1).bind fun (e8 : Int) => (withJ (fun (v14 : Int) => some ((GDecl.mk v3 0 v14 (⟨#[]⟩ : ByteArray)), y7.2)) (fun (j9 : Int → Option (GDecl × GSrc)) => Src_decl_L0 v3 j9 y7 n e8)))))) fun y => SrcOk y.2 := fun v3 => by
    refine tot_bind (src_N n c (by decide)) fun y4 ⟨a4, b4, c4⟩ => ?_
    refine tot_ite (fun _ => ?_) fun _ => tot_ite (fun _ => tot_some c4) fun _ => tot_ite (fun _ => tot_some c4) fun _ => ?_
    · refine tot_bind (src_N n c4 (by decide)) fun y5 ⟨a5, b5, c5⟩ => ?_
      exact tot_bind (tot_idx a5 (b5 (by decide))) fun e _ => tot_some c5
    · refine tot_bind (src_N n c4 (by decide)) fun y7 ⟨a7, b7, c7⟩ => ?_
      refine tot_bind (tot_idx a7 (b7 (by decide))) fun e he => ?_
      unfold withJ
      have hb : e < 2 ^ (9 + 1) ∧ -1000 ≤ e := by
        simp only [List.mem_cons, List.not_mem_nil, or_false] at he
        omega
      exact decl_loop v3 _ y7 (fun v => tot_some c7) 9 n e hb.1 hb.2 (by omega) (by decide)
  exact tot_ite (fun _ => key 9) fun _ => key y.1
/-- a sheet as it is drawn -/
def SheetOk (s : GSheet) : Prop := s.Rules.length ≤ 6 ∧ ∀ r, r ∈ s.Rules → 1 ≤ r.Decls.length ∧ r.Decls.length ≤ 4
theorem sheet_L1 (v89 : Int) (j : List Int → Int → List GDecl → Option (GSheet × GSrc)) (v67 v77 : Int) (v83 : ByteArray) (v95 : Int) (v101 : ByteArray) (v70 : List GRule) {Q : GSheet × GSrc → Prop} (hj : ∀ L A l, SrcOk ⟨L, A⟩ → 1 ≤ l.length → l.length ≤ 4 → Tot (j L A l) Q) :
    ∀ (k n : Nat) (v : Int) (L : List Int) (A : Int) (l : List GDecl), v = k → k + 20 < n → SrcOk ⟨L, A⟩ → 1 ≤ k + l.length → k + l.length ≤ 4 → Tot (Src_Sheet_L1 v89 j v67 v77 v83 v95 v101 v70 n v L A l) Q
  | k, 0, v, L, A, l, _, h, _, _, _ => by omega
  | 0, n + 1, v, L, A, l, hv, hn, h, h1, h2 => by
    rw [Src_Sheet_L1]
    refine tot_ite (fun hc => ?_) fun _ => hj L A l h (by omega) (by omega)
    simp only [decide_eq_true_eq] at hc
    omega
  | k + 1, n + 1, v, L, A, l, hv, hn, h, h1, h2 => by
    rw [Src_Sheet_L1]
    refine tot_ite (fun _ => ?_) fun hc => by
      simp only [decide_eq_false_iff_not] at hc
      omega
    refine tot_bind (src_decl n (by omega) v89 h) fun y hy => ?_
    refine tot_bind (tot_apd (by simp; omega) (by decide)) fun r hr => ?_
    subst hr
    have hw : IntKind.wrap .i64 (v - 1) = v - 1 := Go.Bm.wrap_small (by omega) (by omega)
    rw [hw]
    exact sheet_L1 v89 j v67 v77 v83 v95 v101 v70 hj k n _ _ _ _ (by omega) (by omega) hy (by simp; omega) (by simp; omega)
theorem sheet_L0 (j : List Int → Int → List GRule → Option (GSheet × GSrc)) {Q : GSheet × GSrc → Prop} (hj : ∀ L A l, SrcOk ⟨L, A⟩ → SheetOk ⟨l⟩ → Tot (j L A l) Q) :
    ∀ (k n : Nat) (v : Int) (L : List Int) (A : Int) (l : List GRule), v = k → k + 30 < n → SrcOk ⟨L, A⟩ → k + l.length ≤ 6 → (∀ r, r ∈ l → 1 ≤ r.Decls.length ∧ r.Decls.length ≤ 4) → Tot (Src_Sheet_L0 j n v L A l) Q
  | k, 0, v, L, A, l, _, h, _, _, _ => by omega
  | 0, n + 1, v, L, A, l, hv, hn, h, h1, h2 => by
    rw [Src_Sheet_L0]
    refine tot_ite (fun hc => ?_) fun _ => hj L A l h ⟨by show l.length ≤ 6; omega, h2⟩
    simp only [decide_eq_true_eq] at hc
    omega
  | k + 1, n + 1, v, L, A, l, hv, hn, h, h1, h2 => by
    rw [Src_Sheet_L0]
    refine tot_ite (fun _ => ?_) fun hc => by
      simp only [decide_eq_false_iff_not] at hc
      omega
    have hw : IntKind.wrap .i64 (v - 1) = v - 1 := Go.Bm.wrap_small (by omega) (by omega)
    rw [hw]
    refine tot_withJ3 (fun L A l => SrcOk ⟨L, A⟩ ∧ k + l.length ≤ 6 ∧ ∀ r, r ∈ l → 1 ≤ r.Decls.length ∧ r.Decls.length ≤ 4) (fun L A l ⟨a, b, c⟩ => sheet_L0 j hj k n (v - 1) L A l (by omega) (by omega) a b c) fun j1 k1 => ?_
    refine tot_withJ3 (fun L A _ => SrcOk ⟨L, A⟩) (fun L1 A1 v1 s1 => ?_) fun j2 k2 => ?_
    · refine tot_withJ3 (fun L A _ => SrcOk ⟨L, A⟩) (fun L2 A2 v2 s2 => ?_) fun j2 k2 => ?_
      · refine tot_withJ3 (fun L A _ => SrcOk ⟨L, A⟩) (fun L3 A3 v3 s3 => ?_) fun j2 k2 => ?_
        · refine tot_withJ3 (fun L A _ => SrcOk ⟨L, A⟩) (fun L4 A4 v4 s4 => ?_) fun j2 k2 => ?_
          · refine tot_withJ3 (fun L A _ => SrcOk ⟨L, A⟩) (fun L5 A5 v5 s5 => ?_) fun j2 k2 => ?_
            · refine tot_withJ3 (fun L A (l : List GDecl) => SrcOk ⟨L, A⟩ ∧ 1 ≤ l.length ∧ l.length ≤ 4) (fun L6 A6 v6 ⟨s6, q1, q2⟩ => ?_) fun j2 k2 => ?_
              · refine tot_bind (tot_apd (by simp; omega) (by decide)) fun r hr => ?_
                subst hr
                refine k1 _ _ _ ⟨s6, by simp; omega, fun r hr => ?_⟩
                rcases List.mem_append.1 hr with hr | hr
                · exact h2 r hr
                · simp only [List.mem_singleton] at hr
                  subst hr
                  exact ⟨q1, q2⟩
              · refine tot_bind (src_Range n s5 (by decide) (by decide) (by decide)) fun y ⟨a, b, c⟩ => ?_
                exact sheet_L1 v3 j2 v v1 v2 v4 v5 l (fun L A l a b c => k2 L A l ⟨a, b, c⟩) y.1.toNat n y.1 _ _ _ (by omega) (by omega) c (by simp; omega) (by simp; omega)
            · exact tot_bind (src_N n s4 (by decide)) fun y ⟨_, _, c⟩ => tot_ite (fun _ => tot_bind (src_Name n c) fun y2 c2 => k2 _ _ _ c2) fun _ => k2 _ _ _ c
          · exact tot_bind (src_N n s3 (by decide)) fun y ⟨_, _, c⟩ => tot_ite (fun _ => tot_bind (src_N n c (by decide)) fun y2 ⟨_, _, c2⟩ => k2 _ _ _ c2) fun _ => k2 _ _ _ c
        · exact tot_bind (src_N n s2 (by decide)) fun y ⟨_, _, c⟩ => tot_ite (fun _ => tot_bind (src_N n c (by decide)) fun y2 ⟨_, _, c2⟩ => k2 _ _ _ c2) fun _ => k2 _ _ _ c
      · exact tot_bind (src_N n s1 (by decide)) fun y ⟨_, _, c⟩ => tot_ite (fun _ => tot_bind (src_Name n c) fun y2 c2 => k2 _ _ _ c2) fun _ => k2 _ _ _ c
    · exact tot_bind (src_N n h (by decide)) fun y ⟨_, _, c⟩ => tot_ite (fun _ => tot_bind (src_N n c (by decide)) fun y2 ⟨_, _, c2⟩ => k2 _ _ _ c2) fun _ => k2 _ _ _ c
theorem src_Sheet (n : Nat) (hn : 40 ≤ n) {p : GSrc} (h : SrcOk p) : Tot (Src_Sheet n p) fun y => SheetOk y.1 ∧ SrcOk y.2 := by
  unfold Src_Sheet
  refine tot_withJ3 (fun L A l => SrcOk ⟨L, A⟩ ∧ SheetOk ⟨l⟩) (fun L A l ⟨a, b⟩ => tot_some ⟨b, a⟩) fun j hj => ?_
  refine tot_bind (src_N n h (by decide)) fun y ⟨a, b, c⟩ => ?_
  have b := b (by decide)
  exact sheet_L0 j (fun L A l a b => hj L A l ⟨a, b⟩) y.1.toNat n y.1 _ _ _ (by omega) (by omega) c (by simp; omega) (fun r hr => nomatch hr)
theorem spoilt_true (l : List Int) : Tot (law17_StyleSheetsSpoilt 200 l) fun b => b = true := by
  unfold law17_StyleSheetsSpoilt
  refine tot_bind (src_New 200 l) fun y1 c1 => ?_
  refine tot_bind (src_Sheet 200 (by decide) c1) fun y2 ⟨s2, c2⟩ => ?_
  obtain ⟨x, hx⟩ := val y2.1
  obtain ⟨hx1, hx2⟩ := hx 200 (by decide)
  rw [hx1, hx2]
  refine tot_bind (P := fun y => y = x) (tot_some rfl) fun y3 h3 => ?_
  refine tot_bind (P := fun y => y = x) (tot_some rfl) fun y4 h4 => ?_
  subst h3 h4
  refine tot_ite (fun _ => tot_bind (P := fun y => y = y4) (tot_some rfl) fun y5 h5 => tot_bind (P := fun y => y = y4) (tot_some rfl) fun y6 h6 => tot_some (by subst h5 h6; simp)) fun hc => ?_
  simp only [bne_self_eq_false, Bool.false_or, beq_eq_false_iff_ne, ne_eq] at hc
  have hlen : 0 < y2.1.Rules.length := by omega
  refine tot_bind (tot_inb0 hlen) fun k7 hk => ?_
  subst hk
  refine tot_bind (tot_get hlen) fun e8 he8 => ?_
  obtain ⟨d1, d2⟩ := s2.2 e8 he8
  refine tot_bind (tot_apd (by simp; omega) (by decide)) fun l9 hl9 => ?_
  rw [List.nil_append] at hl9
  subst hl9
  refine tot_withJ5 (fun _ _ _ _ _ => True) (fun v36 v37 v38 v39 v40 _ => ?_) fun j hj => ?_
  · refine tot_bind (tot_inb0 hlen) fun k43 _ => ?_
    subst k43
    refine tot_bind (tot_get hlen) fun e44 _ => ?_
    obtain ⟨x, hx⟩ := val (GSheet.mk (List.set y2.1.Rules 0 (GRule.mk v36 v37 v38 v39 e8.UnderClass v40)))
    obtain ⟨hx1, hx2⟩ := hx 200 (by decide)
    rw [hx1, hx2]
    refine tot_bind (P := fun y => y = x) (tot_some rfl) fun y3 h3 => ?_
    refine tot_bind (P := fun y => y = x) (tot_some rfl) fun y4 h4 => ?_
    subst h3 h4
    rw [gd_t (by simp), awake_true2]
    exact tot_bind (P := fun b => b = true) (tot_some rfl) fun b hb => tot_some (by subst hb; simp)
  have hj' : ∀ a b c d e, Tot (j a b c d e) fun b => b = true := fun a b c d e => hj a b c d e trivial
  have hd : 0 < e8.Decls.length := by omega
  refine tot_bind (src_N 200 c2 (by decide)) fun y11 ⟨_, _, c11⟩ => ?_
  refine tot_ite (fun _ => tot_bind (src_Range 200 c11 (by decide) (by decide) (by decide)) fun y _ => hj' _ _ _ _ _) fun _ => ?_
  refine tot_ite (fun _ => tot_bind (src_Range 200 c11 (by decide) (by decide) (by decide)) fun y _ => hj' _ _ _ _ _) fun _ => ?_
  refine tot_ite (fun _ => tot_bind (src_N 200 c11 (by decide)) fun y ⟨a, b, _⟩ => tot_bind (tot_idx a (b (by decide))) fun e _ => hj' _ _ _ _ _) fun _ => ?_
  refine tot_ite (fun _ => tot_bind (src_Range 200 c11 (by decide) (by decide) (by decide)) fun y _ => hj' _ _ _ _ _) fun _ => ?_
  refine tot_ite (fun _ => tot_bind (src_Range 200 c11 (by decide) (by decide) (by decide)) fun y _ => tot_bind (tot_inb0 hd) fun k hk => tot_bind (tot_get (by subst hk; exact hd)) fun e _ => hj' _ _ _ _ _) fun _ => ?_
  refine tot_ite (fun _ => tot_bind (src_Range 200 c11 (by decide) (by decide) (by decide)) fun y _ => tot_bind (tot_inb0 hd) fun k hk => tot_bind (tot_get (by subst hk; exact hd)) fun e _ => hj' _ _ _ _ _) fun _ => ?_
  refine tot_ite (fun _ => tot_bind (src_N 200 c11 (by decide)) fun y ⟨a, b, _⟩ => tot_bind (tot_idx a (b (by decide))) fun e _ => tot_bind (tot_inb0 hd) fun k hk => tot_bind (tot_get (by subst hk; exact hd)) fun e _ => hj' _ _ _ _ _) fun _ => ?_
  refine tot_ite (fun _ => tot_bind (src_N 200 c11 (by decide)) fun y ⟨a, b, _⟩ => tot_bind (tot_idx a (b (by decide))) fun e _ => tot_bind (tot_inb0 hd) fun k hk => tot_bind (tot_get (by subst hk; exact hd)) fun e _ => hj' _ _ _ _ _) fun _ => ?_
  exact tot_bind (src_N 200 c11 (by decide)) fun y ⟨a, b, c⟩ => tot_bind (tot_idx a (b (by decide))) fun e _ => tot_bind (src_N 200 c (by decide)) fun y2 _ => tot_bind (tot_inb0 hd) fun k hk => tot_bind (tot_get (by subst hk; exact hd)) fun e _ => hj' _ _ _ _ _
theorem styleSheetsSpoilt_true (l : List Int) : law17_StyleSheetsSpoilt 200 l = some true := by
  obtain ⟨b, h, rfl⟩ := spoilt_true l
  exact h
end Go.Proofs.YtojkihhnioeggaaDoor.S
