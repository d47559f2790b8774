import Derived.Test.YtojkihhnioeggaaGreatDoorQEGM15
import Derived.Test.YtojkihhnioeggaaGreatDoorQERc1
import Derived.WalkLawsBesides
import Derived.Deep.QuietTactic
import Derived.BigQuiet
import Derived.BigRegion
import Derived.Lib.Hide
import Derived.Deep.RegionWith
set_option linter.unusedSimpArgs false
set_option linter.all false
set_option linter.unusedVariables false
namespace Go.Proofs.YtojkihhnioeggaaGreatDoor.S
open Go Go.Bm
theorem Gm (p : Int) : p < 0 ∨ 22 ≤ p ∨ ∃ k, k ∈ List.range 22 ∧ p = (k : Int) := by
 by_cases h : p < 0
 ·exact .inl h
 by_cases h2 : 22 ≤ p
 ·exact .inr (.inl h2)
 exact .inr (.inr ⟨p.toNat, by simp; omega, by omega⟩)
theorem rng_in (n : Nat) (q : Int) (k : Nat) (hk : k ∈ List.range 22) : ∃ b, dM n (k : Int) q = some b ∧ dS n (k : Int) q = some b := by
 have : k < 22 := by simpa using hk
 have key : ∀ (p lo hi : Int) (e : cU), iV n p = some true → idx bE p = some e → e.low = lo → e.high = hi → dS n p q = some ((((true && true) && (decide (q ≥ lo))) && (decide (q ≤ hi)))) → ∃ b, dM n p q = some b ∧ dS n p q = some b := fun p lo hi e h1 h2 h3 h4 h5 => by
  subst h3 h4
  refine ⟨_, ?_, h5⟩
  unfold dM
  rw [h1, h2]
  cases hd : decide (q ≥ e.low) <;> simp only [hd, oB, gd, List.all_cons, List.all_nil, id, Bool.and_true, Bool.true_and, if_true, fT, if_false, Bool.false_and]
 rcases k with _ | _ | _ | _ | _ | _ | _ | _ | _ | _ | _ | _ | _ | _ | _ | _ | _ | _ | _ | _ | _ | _ | k
 iterate 22 exact key _ _ _ _ rfl rfl rfl rfl rfl
 omega
theorem rng (n : Nat) (p q : Int) : ∃ b, dM n p q = some b ∧ dS n p q = some b := by
 rcases Gm p with h | h | ⟨k, hk, rfl⟩
 ·refine ⟨false, ?_, ?_⟩
  ·have h1 : decide (p ≥ 0) = false := by simp; omega
   simp [dM, iV, gd, h1]
  ·have e : ∀ m : Int, 0 ≤ m → (p == m) = false := fun m hm => by simp; omega
   have h1 : decide (p ≥ 0) = false := by simp; omega
   simp [dS, aS, e, h1]
 ·refine ⟨false, ?_, ?_⟩
  ·have h1 : decide (p < 22) = false := by simp; omega
   simp [dM, iV, gd, h1]
  ·have e : ∀ m : Int, m < 22 → (p == m) = false := fun m hm => by simp; omega
   have h1 : decide (p < 22) = false := by simp; omega
   simp [dS, aS, e, h1]
 ·exact rng_in n q k hk
def yZ (p q : Int) : Bool := (dM 0 p q).getD false
theorem Jd (n : Nat) (p q : Int) : dM n p q = some (yZ p q) ∧ dS n p q = some (yZ p q) := by
 obtain ⟨b, h1, h2⟩ := rng 0 p q
 have e : yZ p q = b := by unfold yZ; rw [h1]; rfl
 rw [e]
 exact ⟨h1, h2⟩
theorem rng_one {p : Int} (h0 : 0 ≤ p) (h1 : p < 22) : yZ p 1 = true := by
 rcases Gm p with h | h | ⟨k, hk, rfl⟩
 ·omega
 ·omega
 ·have : k < 22 := by simpa using hk
  rcases k with _ | _ | _ | _ | _ | _ | _ | _ | _ | _ | _ | _ | _ | _ | _ | _ | _ | _ | _ | _ | _ | _ | k
  iterate 22 exact congrArg (fun x => x.getD false) (by kernel_rfl : dM 0 _ 1 = some true)
  omega
structure DOk (st : Int) (d : bW) : Prop where
 prop : 0 ≤ d.Prop_ ∧ d.Prop_ < 22
 src : 0 ≤ d.Source ∧ d.Source ≤ 3
 num : d.Source ≠ 0 → d.N = 0
 tok : d.Source ≠ 1 → d.Token = nB
 rng : d.Source = 0 → yZ d.Prop_ d.N = true
 name : d.Source = 1 → Um d.Token
 pass : oU .i64 st 7 ≠ 0 → d.Prop_ ≠ 5 ∧ d.Prop_ ≠ 21
structure Hh (r : cM) : Prop where
 kind : 0 ≤ r.Kind ∧ r.Kind ≤ 13
 cls : r.Class = nB ∨ Um r.Class
 st : 0 ≤ r.States ∧ r.States ≤ 31
 uk : 0 ≤ r.UnderKind ∧ r.UnderKind ≤ 13
 uc : r.UnderClass = nB ∨ Um r.UnderClass
 len : r.Decls.length ≤ 4
 dec : ∀ d, d ∈ r.Decls → DOk r.States d
structure jY (s : bM) : Prop where
 len : s.Rules.length ≤ 6
 ok : ∀ r, r ∈ s.Rules → Hh r
theorem Lo (p : Int) (y7 : Int × aW) (j : Int → Option (bW × aW)) {Q : bW × aW → Prop} (h1 : yZ p 1 = true) (hj : ∀ x, yZ p x = true → jP (j x) Q) : ∀ (k n : Nat) (x : Int), -1 ≤ x → x ≤ 2 ^ k → x ≤ 1000000 → k < n → jP (oS p j y7 n x) Q
 | k, 0, x, _, _, _, h => by omega
 | k, n + 1, x, h0, hx, hbig, hn => by
  rw [oS, (Jd n p x).2]
  refine aK (P := fun b => b = yZ p x) (bZ rfl) fun b hb => ?_
  subst hb
  refine bO (fun _ => ?_) fun hr => hj x (by simpa using hr)
  refine bO (fun _ => hj 1 h1) fun hm => ?_
  simp only [decide_eq_false_iff_not] at hm
  by_cases hneg : x < 0
  ·obtain rfl : x = -1 := by omega
   exact absurd (by decide : Ju 0 (w6 (Int.tdiv (-1) 2)) < 2) hm
  ·have ht : Int.tdiv x 2 = x / 2 := Int.tdiv_eq_ediv_of_nonneg (by omega)
   match k, hx, hn with
   | 0, hx, hn =>
    have : x = 0 ∨ x = 1 := by simp at hx; omega
    rcases this with rfl | rfl
    ·exact absurd (by decide : Ju 0 (w6 (Int.tdiv 0 2)) < 2) hm
    ·exact absurd (by decide : Ju 0 (w6 (Int.tdiv 1 2)) < 2) hm
   | k + 1, hx, hn =>
    have hw : w6 (Int.tdiv x 2) = x / 2 := by rw [ht]; exact wS (by omega) (by omega)
    have hmx : Ju 0 (x / 2) = x / 2 := by unfold Ju; split <;> omega
    rw [hw, hmx] at hm ⊢
    rw [Int.pow_succ] at hx
    exact Lo p y7 j h1 hj k n (x / 2) (by omega) (by omega) (by omega) (by omega)
theorem src_decl (n : Nat) (hn : 20 ≤ n) {p : aW} (h : bR p) (st : Int) : jP (xO n p st) fun y => DOk st y.1 ∧ bR y.2 := by
 unfold xO
 refine aK (cO n h (by decide)) fun y1 ⟨a, b, c⟩ => ?_
 have b := b (by decide)
 refine sH (fun v => (0 ≤ v ∧ v < 22) ∧ (oU .i64 st 7 ≠ 0 → v ≠ 5 ∧ v ≠ 21)) (fun v ⟨hv, hp⟩ => ?_) fun j k => ?_
 ·refine aK (cO n c (by decide)) fun y4 ⟨_, _, c4⟩ => bO (fun _ => ?_) fun _ => bO (fun _ => ?_) fun _ => bO (fun _ => ?_) fun _ => ?_
  ·refine aK (cO n c4 (by decide)) fun y5 ⟨a5, b5, c5⟩ => aK (mG a5 (b5 (by decide))) fun e he => bZ ⟨⟨hv, ⟨(by decide : (0 : Int) ≤ 1), (by decide : (1 : Int) ≤ 3)⟩, fun _ => rfl, fun hc => absurd rfl hc, fun hc => (by cases hc), fun _ => ?_, hp⟩, c5⟩
   show Um e
   simp only [List.mem_cons, List.not_mem_nil, or_false] at he
   rcases he with rfl | rfl | rfl | rfl
   ·exact vO (by kernel_rfl)
   ·exact vO (by kernel_rfl)
   ·exact vO (by kernel_rfl)
   ·exact vO (by kernel_rfl)
  ·exact bZ ⟨⟨hv, ⟨(by decide : (0 : Int) ≤ 2), (by decide : (2 : Int) ≤ 3)⟩, fun _ => rfl, fun _ => rfl, fun hc => (by cases hc), fun hc => (by cases hc), hp⟩, c4⟩
  ·exact bZ ⟨⟨hv, ⟨(by decide : (0 : Int) ≤ 3), (by decide : (3 : Int) ≤ 3)⟩, fun _ => rfl, fun _ => rfl, fun hc => (by cases hc), fun hc => (by cases hc), hp⟩, c4⟩
  ·refine aK (cO n c4 (by decide)) fun y7 ⟨a7, b7, c7⟩ => aK (mG a7 (b7 (by decide))) fun e he => ?_
   refine sH (fun x => yZ v x = true) (fun x hx => bZ ⟨⟨hv, ⟨(by decide : (0 : Int) ≤ 0), (by decide : (0 : Int) ≤ 3)⟩, fun hc => absurd rfl hc, fun _ => rfl, fun _ => hx, fun hc => (by cases hc), hp⟩, c7⟩) fun j k => ?_
   simp only [List.mem_cons, List.not_mem_nil, or_false] at he
   exact Lo v y7 j (rng_one hv.1 hv.2) k 10 n e (by omega) (by omega) (by omega) (by omega)
 ·refine bO (fun _ => k 9 ⟨by decide, fun _ => by decide⟩) fun hc => k _ ⟨⟨a, b⟩, fun hs => ?_⟩
  simp only [bne_iff_ne, ne_eq, Bool.and_eq_false_iff, Bool.or_eq_false_iff, beq_eq_false_iff_ne] at hc
  rcases hc with hc | hc
  ·exact absurd (by simpa using hc) hs
  ·exact hc
theorem Lv (n : Nat) {p : aW} (h : bR p) : jP (oZ n p) fun y => Um y.1 ∧ bR y.2 := by
 unfold oZ
 refine aK (cO n h (by decide)) fun y ⟨a, b, c⟩ => ?_
 have b := b (by decide)
 refine aK (mG a b) fun e he => bZ ⟨?_, c⟩
 show Um e
 simp only [List.mem_cons, List.not_mem_nil, or_false] at he
 rcases he with rfl | rfl | rfl | rfl | rfl | rfl | rfl | rfl
 all_goals exact vO (by kernel_rfl)
theorem Gp (st : Int) (j : List Int → Int → List bW → Option (bM × aW)) {Q : bM × aW → Prop} (v67 v77 : Int) (v83 : ByteArray) (v95 : Int) (v101 : ByteArray) (v70 : List cM) (hj : ∀ L A l, bR ⟨L, A⟩ → l.length ≤ 4 → (∀ d, d ∈ l → DOk st d) → jP (j L A l) Q) : ∀ (k n : Nat) (q : Int) (L : List Int) (A : Int) (l : List bW), q = k → k + 30 < n → bR ⟨L, A⟩ → l.length + k ≤ 4 → (∀ d, d ∈ l → DOk st d) → jP (lJ st j v67 v77 v83 v95 v101 v70 n q L A l) Q
 | k, 0, q, L, A, l, _, h, _, _, _ => by omega
 | 0, n + 1, q, L, A, l, hq, hn, h, hl, hd => by
  rw [lJ]
  exact bO (fun hc => by simp only [decide_eq_true_eq] at hc; omega) fun _ => hj L A l h (by omega) hd
 | k + 1, n + 1, q, L, A, l, hq, hn, h, hl, hd => by
  have hw : w6 (q - 1) = q - 1 := wS (by omega) (by omega)
  rw [lJ, hw]
  refine bO (fun _ => ?_) fun hc => by simp only [decide_eq_false_iff_not] at hc; omega
  refine aK (src_decl n (by omega) h st) fun y ⟨hy, hc⟩ => aK (dK (by simp; omega) (by decide)) fun r hr => ?_
  subst hr
  refine Gp st j v67 v77 v83 v95 v101 v70 hj k n (q - 1) _ _ _ (by omega) (by omega) hc (by simp; omega) fun d hd' => ?_
  rcases List.mem_append.1 hd' with hd' | hd'
  ·exact hd d hd'
  ·simp only [List.mem_singleton] at hd'
   subst hd'
   exact hy
theorem Hd (j : List Int → Int → List cM → Option (bM × aW)) {Q : bM × aW → Prop} (hj : ∀ L A l, bR ⟨L, A⟩ → l.length ≤ 6 → (∀ d, d ∈ l → Hh d) → jP (j L A l) Q) : ∀ (k n : Nat) (q : Int) (L : List Int) (A : Int) (l : List cM), q = k → k + 50 < n → bR ⟨L, A⟩ → l.length + k ≤ 6 → (∀ d, d ∈ l → Hh d) → jP (lR j n q L A l) Q
 | k, 0, q, L, A, l, _, h, _, _, _ => by omega
 | 0, n + 1, q, L, A, l, hq, hn, h, hl, hd => by
  rw [lR]
  exact bO (fun hc => by simp only [decide_eq_true_eq] at hc; omega) fun _ => hj L A l h (by omega) hd
 | k + 1, n + 1, q, L, A, l, hq, hn, h, hl, hd => by
  have hw : w6 (q - 1) = q - 1 := wS (by omega) (by omega)
  rw [lR, hw]
  refine bO (fun _ => ?_) fun hc => by simp only [decide_eq_false_iff_not] at hc; omega
  refine cA (fun L A (l : List cM) => bR ⟨L, A⟩ ∧ l.length + k ≤ 6 ∧ ∀ d, d ∈ l → Hh d) (fun L A l ⟨a, b, c⟩ => Hd j hj k n (q - 1) L A l (by omega) (by omega) a b c) fun j1 k1 => ?_
  refine cA (fun L A (x : Int) => bR ⟨L, A⟩ ∧ 0 ≤ x ∧ x ≤ 13) (fun L2 A2 kd ⟨s2, hk1, hk2⟩ => ?_) fun j2 k2 => ?_
  rotate_left
  ·exact aK (cO n h (by decide)) fun y ⟨_, _, c⟩ => bO (fun _ => aK (cO n c (by decide)) fun z ⟨a, b, c⟩ => k2 _ _ _ ⟨c, a, by have := b (by decide); omega⟩) fun _ => k2 _ _ _ ⟨c, by decide, by decide⟩
  refine cA (fun L A (x : ByteArray) => bR ⟨L, A⟩ ∧ (x = nB ∨ Um x)) (fun L3 A3 cl ⟨s3, hcl⟩ => ?_) fun j3 k3 => ?_
  rotate_left
  ·exact aK (cO n s2 (by decide)) fun y ⟨_, _, c⟩ => bO (fun _ => aK (Lv n c) fun z ⟨a, c⟩ => k3 _ _ _ ⟨c, .inr a⟩) fun _ => k3 _ _ _ ⟨c, .inl rfl⟩
  refine cA (fun L A (x : Int) => bR ⟨L, A⟩ ∧ 0 ≤ x ∧ x ≤ 31) (fun L4 A4 st ⟨s4, hs1, hs2⟩ => ?_) fun j4 k4 => ?_
  rotate_left
  ·exact aK (cO n s3 (by decide)) fun y ⟨_, _, c⟩ => bO (fun _ => aK (cO n c (by decide)) fun z ⟨a, b, c⟩ => k4 _ _ _ ⟨c, a, by have := b (by decide); omega⟩) fun _ => k4 _ _ _ ⟨c, by decide, by decide⟩
  refine cA (fun L A (x : Int) => bR ⟨L, A⟩ ∧ 0 ≤ x ∧ x ≤ 13) (fun L5 A5 uk ⟨s5, hu1, hu2⟩ => ?_) fun j5 k5 => ?_
  rotate_left
  ·exact aK (cO n s4 (by decide)) fun y ⟨_, _, c⟩ => bO (fun _ => aK (cO n c (by decide)) fun z ⟨a, b, c⟩ => k5 _ _ _ ⟨c, a, by have := b (by decide); omega⟩) fun _ => k5 _ _ _ ⟨c, by decide, by decide⟩
  refine cA (fun L A (x : ByteArray) => bR ⟨L, A⟩ ∧ (x = nB ∨ Um x)) (fun L6 A6 uc ⟨s6, huc⟩ => ?_) fun j6 k6 => ?_
  rotate_left
  ·exact aK (cO n s5 (by decide)) fun y ⟨_, _, c⟩ => bO (fun _ => aK (Lv n c) fun z ⟨a, c⟩ => k6 _ _ _ ⟨c, .inr a⟩) fun _ => k6 _ _ _ ⟨c, .inl rfl⟩
  refine cA (fun L A (ds : List bW) => bR ⟨L, A⟩ ∧ ds.length ≤ 4 ∧ ∀ d, d ∈ ds → DOk st d) (fun L7 A7 ds ⟨s7, hd1, hd2⟩ => ?_) fun j7 k7 => ?_
  ·refine aK (dK (by simp; omega) (by decide)) fun r hr => ?_
   subst hr
   refine k1 _ _ _ ⟨s7, by simp; omega, fun d hd' => ?_⟩
   rcases List.mem_append.1 hd' with hd' | hd'
   ·exact hd d hd'
   ·simp only [List.mem_singleton] at hd'
    subst hd'
    exact ⟨⟨hk1, hk2⟩, hcl, ⟨hs1, hs2⟩, ⟨hu1, hu2⟩, huc, hd1, hd2⟩
  ·refine aK (Cz n s6 (by decide) (by decide) (by decide)) fun y ⟨a, b, c⟩ => ?_
   exact Gp st j7 _ _ _ _ _ _ (fun L A l x y z => k7 L A l ⟨x, y, z⟩) y.1.toNat n y.1 _ _ [] (by omega) (by omega) c (by simp; omega) fun d hd => nomatch hd
theorem Xx (n : Nat) (hn : 100 ≤ n) {p : aW} (h : bR p) : jP (uL n p) fun y => jY y.1 ∧ bR y.2 := by
 unfold uL
 refine cA (fun L A (l : List cM) => bR ⟨L, A⟩ ∧ l.length ≤ 6 ∧ ∀ d, d ∈ l → Hh d) (fun L A l ⟨a, b, c⟩ => bZ ⟨⟨b, c⟩, a⟩) fun j k => ?_
 refine aK (cO n h (by decide)) fun y ⟨a, b, c⟩ => ?_
 have b := b (by decide)
 exact Hd j (fun L A l x y z => k L A l ⟨x, y, z⟩) y.1.toNat n y.1 _ _ [] (by omega) (by omega) c (by simp; omega) fun d hd => nomatch hd
theorem Eu (t : bA) (hz : t.Nodes.length ≤ 1000) (j : List aO → List Int → Int → Option ((List aO) × aW)) {Q : (List aO) × aW → Prop} (hj : ∀ l L A, bR ⟨L, A⟩ → l.length ≤ 1000 → (∀ s, s ∈ l → 0 ≤ s.States ∧ s.States < 32) → jP (j l L A) Q) : ∀ (k i n : Nat) (l : List aO) (L : List Int) (A : Int), i + k = t.Nodes.length → k < n → bR ⟨L, A⟩ → l.length + k ≤ 1000 → (∀ s, s ∈ l → 0 ≤ s.States ∧ s.States < 32) → jP (kN t j n l (i : Int) L A) Q
 | k, i, 0, l, L, A, _, h, _, _, _ => by omega
 | 0, i, n + 1, l, L, A, hi, hn, h, hl, hs => by
  rw [kN]
  exact bO (fun hc => by simp only [decide_eq_true_eq] at hc; omega) fun _ => hj l L A h (by omega) hs
 | k + 1, i, n + 1, l, L, A, hi, hn, h, hl, hs => by
  have hw : w6 ((i : Int) + 1) = ((i + 1 : Nat) : Int) := by rw [wS (by omega) (by omega)]; omega
  rw [kN, hw]
  refine bO (fun _ => ?_) fun hc => by simp only [decide_eq_false_iff_not] at hc; omega
  refine cA (fun (l : List aO) L A => bR ⟨L, A⟩ ∧ l.length + k ≤ 1000 ∧ ∀ s, s ∈ l → 0 ≤ s.States ∧ s.States < 32) (fun l L A ⟨a, b, c⟩ => Eu t hz j hj k (i + 1) n l L A (by omega) (by omega) a b c) fun j1 k1 => ?_
  refine aK (cO n h (by decide)) fun y ⟨_, _, c⟩ => bO (fun _ => ?_) fun _ => k1 _ _ _ ⟨c, by omega, hs⟩
  refine aK (mG (by omega) (by omega)) fun e he => aK (cO n c (by decide)) fun z ⟨a, b, c⟩ => aK (dK (by simp; omega) (by decide)) fun r hr => ?_
  subst hr
  refine k1 _ _ _ ⟨c, by simp; omega, fun s hs' => ?_⟩
  rcases List.mem_append.1 hs' with hs' | hs'
  ·exact hs s hs'
  ·simp only [List.mem_singleton] at hs'
   subst hs'
   exact ⟨a, b (by decide)⟩
theorem Hc (n : Nat) {t : bA} (hz : t.Nodes.length ≤ 400) (hn : 500 ≤ n) {p : aW} (h : bR p) : jP (qF n p t) fun y => (y.1.length ≤ 1000 ∧ ∀ s, s ∈ y.1 → 0 ≤ s.States ∧ s.States < 32) ∧ bR y.2 := by
 unfold qF
 refine cA (fun (l : List aO) L A => bR ⟨L, A⟩ ∧ l.length ≤ 1000 ∧ ∀ s, s ∈ l → 0 ≤ s.States ∧ s.States < 32) (fun l L A ⟨a, b, c⟩ => bZ ⟨⟨b, c⟩, a⟩) fun j k => ?_
 exact Eu t (by omega) j (fun l L A a b c => k l L A ⟨a, b, c⟩) t.Nodes.length 0 n [] p.L p.At (by omega) (by omega) h (by simp; omega) fun s hs => nomatch hs
end Go.Proofs.YtojkihhnioeggaaGreatDoor.S
