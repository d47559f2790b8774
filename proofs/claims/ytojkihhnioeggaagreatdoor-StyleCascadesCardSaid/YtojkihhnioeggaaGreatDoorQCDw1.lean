import Derived.Test.YtojkihhnioeggaaGreatDoorQCGM13
import Derived.Test.YtojkihhnioeggaaGreatDoorQCRc1
import Derived.WalkKit
import Derived.WalkSpells
import Derived.WalkLawsBesides
import Derived.Deep.QuietTactic
import Derived.BigQuiet
import Derived.BigRegion
import Derived.Lib.Hide
import Derived.Deep.RegionWith
set_option linter.unusedSimpArgs false
set_option linter.unusedVariables false
set_option linter.unusedSimpArgs false
set_option linter.unusedVariables false
namespace Go.Proofs.YtojkihhnioeggaaGreatDoor.S
open Go Go.Bm
theorem Dw (p : Int) : p < 0 ∨ 22 ≤ p ∨ ∃ k, k ∈ List.range 22 ∧ p = (k : Int) := by
 by_cases h : p < 0
 ·exact .inl h
 by_cases h2 : 22 ≤ p
 ·exact .inr (.inl h2)
 exact .inr (.inr ⟨p.toNat, by simp; omega, by omega⟩)
theorem rng_in (n : Nat) (q : Int) (k : Nat) (hk : k ∈ List.range 22) : ∃ b, dB n (k : Int) q = some b ∧ dI n (k : Int) q = some b := by
 have : k < 22 := by simpa using hk
 have key : ∀ (p lo hi : Int) (e : cB), iB n p = some true → idx aZ p = some e → e.low = lo → e.high = hi → dI n p q = some ((((true && true) && (decide (q ≥ lo))) && (decide (q ≤ hi)))) → ∃ b, dB n p q = some b ∧ dI n p q = some b := fun p lo hi e h1 h2 h3 h4 h5 => by
  subst h3 h4
  refine ⟨_, ?_, h5⟩
  unfold dB
  rw [h1, h2]
  cases hd : decide (q ≥ e.low) <;> simp only [hd, Option.bind_some, gd, List.all_cons, List.all_nil, id, Bool.and_true, Bool.true_and, if_true, Bool.false_eq_true, if_false, Bool.false_and]
 rcases k with _ | _ | _ | _ | _ | _ | _ | _ | _ | _ | _ | _ | _ | _ | _ | _ | _ | _ | _ | _ | _ | _ | k
 iterate 22 exact key _ _ _ _ rfl rfl rfl rfl rfl
 omega
theorem rng (n : Nat) (p q : Int) : ∃ b, dB n p q = some b ∧ dI n p q = some b := by
 rcases Dw p with h | h | ⟨k, hk, rfl⟩
 ·refine ⟨false, ?_, ?_⟩
  ·have h1 : decide (p ≥ 0) = false := by simp; omega
   simp [dB, iB, gd, h1]
  ·have e : ∀ m : Int, 0 ≤ m → (p == m) = false := fun m hm => by simp; omega
   have h1 : decide (p ≥ 0) = false := by simp; omega
   simp [dI, aS, e, h1]
 ·refine ⟨false, ?_, ?_⟩
  ·have h1 : decide (p < 22) = false := by simp; omega
   simp [dB, iB, gd, h1]
  ·have e : ∀ m : Int, m < 22 → (p == m) = false := fun m hm => by simp; omega
   have h1 : decide (p < 22) = false := by simp; omega
   simp [dI, aS, e, h1]
 ·exact rng_in n q k hk
def xE (p q : Int) : Bool := (dB 0 p q).getD false
theorem Gm (n : Nat) (p q : Int) : dB n p q = some (xE p q) ∧ dI n p q = some (xE p q) := by
 obtain ⟨b, h1, h2⟩ := rng 0 p q
 have e : xE p q = b := by unfold xE; rw [h1]; rfl
 rw [e]
 exact ⟨h1, h2⟩
theorem aA0 {p : Int} (h0 : 0 ≤ p) (h1 : p < 22) : xE p 1 = true := by
 rcases Dw p with h | h | ⟨k, hk, rfl⟩
 ·omega
 ·omega
 ·have : k < 22 := by simpa using hk
  rcases k with _ | _ | _ | _ | _ | _ | _ | _ | _ | _ | _ | _ | _ | _ | _ | _ | _ | _ | _ | _ | _ | _ | k
  iterate 22 exact congrArg (fun x => x.getD false) (by kernel_rfl : dB 0 _ 1 = some true)
  omega
structure DOk (st : Int) (d : bN) : Prop where
 prop : 0 ≤ d.Prop_ ∧ d.Prop_ < 22
 src : 0 ≤ d.Source ∧ d.Source ≤ 3
 num : d.Source ≠ 0 → d.N = 0
 tok : d.Source ≠ 1 → d.Token = (⟨#[]⟩ : ByteArray)
 rng : d.Source = 0 → xE d.Prop_ d.N = true
 name : d.Source = 1 → Rn d.Token
 pass : jW .i64 st 7 ≠ 0 → d.Prop_ ≠ 5 ∧ d.Prop_ ≠ 21
structure Eo (r : bZ) : Prop where
 kind : 0 ≤ r.Kind ∧ r.Kind ≤ 13
 cls : r.Class = (⟨#[]⟩ : ByteArray) ∨ Rn r.Class
 st : 0 ≤ r.States ∧ r.States ≤ 31
 uk : 0 ≤ r.UnderKind ∧ r.UnderKind ≤ 13
 uc : r.UnderClass = (⟨#[]⟩ : ByteArray) ∨ Rn r.UnderClass
 len : r.Decls.length ≤ 4
 dec : ∀ d, d ∈ r.Decls → DOk r.States d
structure kO (s : bK) : Prop where
 len : s.Rules.length ≤ 6
 ok : ∀ r, r ∈ s.Rules → Eo r
theorem Iu (p : Int) (y7 : Int × aO) (j : Int → Option (bN × aO)) {Q : bN × aO → Prop} (h1 : xE p 1 = true) (hj : ∀ x, xE p x = true → lJ (j x) Q) : ∀ (k n : Nat) (x : Int), -1 ≤ x → x ≤ 2 ^ k → x ≤ 1000000 → k < n → lJ (nM p j y7 n x) Q
 | k, 0, x, _, _, _, h => by omega
 | k, n + 1, x, h0, hx, hbig, hn => by
  rw [nM, (Gm n p x).2]
  refine aK (P := fun b => b = xE p x) (cA rfl) fun b hb => ?_
  subst hb
  refine bO (fun _ => ?_) fun hr => hj x (by simpa using hr)
  refine bO (fun _ => hj 1 h1) fun hm => ?_
  simp only [decide_eq_false_iff_not] at hm
  by_cases hneg : x < 0
  ·obtain rfl : x = -1 := by omega
   exact absurd (by decide : Hf 0 (IntKind.wrap .i64 (Int.tdiv (-1) 2)) < 2) hm
  ·have ht : Int.tdiv x 2 = x / 2 := Int.tdiv_eq_ediv_of_nonneg (by omega)
   match k, hx, hn with
   | 0, hx, hn =>
    have : x = 0 ∨ x = 1 := by simp at hx; omega
    rcases this with rfl | rfl
    ·exact absurd (by decide : Hf 0 (IntKind.wrap .i64 (Int.tdiv 0 2)) < 2) hm
    ·exact absurd (by decide : Hf 0 (IntKind.wrap .i64 (Int.tdiv 1 2)) < 2) hm
   | k + 1, hx, hn =>
    have hw : IntKind.wrap .i64 (Int.tdiv x 2) = x / 2 := by rw [ht]; exact Go.Bm.aU (by omega) (by omega)
    have hmx : Hf 0 (x / 2) = x / 2 := by unfold Hf; split <;> omega
    rw [hw, hmx] at hm ⊢
    rw [Int.pow_succ] at hx
    exact Iu p y7 j h1 hj k n (x / 2) (by omega) (by omega) (by omega) (by omega)
theorem Ya (n : Nat) (hn : 20 ≤ n) {p : aO} (h : bT p) (st : Int) : lJ (vQ n p st) fun y => DOk st y.1 ∧ bT y.2 := by
 unfold vQ
 refine aK (cS n h (by decide)) fun y1 ⟨a, b, c⟩ => ?_
 have b := b (by decide)
 refine oN (fun v => (0 ≤ v ∧ v < 22) ∧ (jW .i64 st 7 ≠ 0 → v ≠ 5 ∧ v ≠ 21)) (fun v ⟨hv, hp⟩ => ?_) fun j k => ?_
 ·refine aK (cS n c (by decide)) fun y4 ⟨_, _, c4⟩ => bO (fun _ => ?_) fun _ => bO (fun _ => ?_) fun _ => bO (fun _ => ?_) fun _ => ?_
  ·refine aK (cS n c4 (by decide)) fun y5 ⟨a5, b5, c5⟩ => aK (mK a5 (b5 (by decide))) fun e he => cA ⟨⟨hv, ⟨(by decide : (0 : Int) ≤ 1), (by decide : (1 : Int) ≤ 3)⟩, fun _ => rfl, fun hc => absurd rfl hc, fun hc => (by cases hc), fun _ => ?_, hp⟩, c5⟩
   show Rn e
   simp only [List.mem_cons, List.not_mem_nil, or_false] at he
   rcases he with rfl | rfl | rfl | rfl
   ·exact tS (by kernel_rfl)
   ·exact tS (by kernel_rfl)
   ·exact tS (by kernel_rfl)
   ·exact tS (by kernel_rfl)
  ·exact cA ⟨⟨hv, ⟨(by decide : (0 : Int) ≤ 2), (by decide : (2 : Int) ≤ 3)⟩, fun _ => rfl, fun _ => rfl, fun hc => (by cases hc), fun hc => (by cases hc), hp⟩, c4⟩
  ·exact cA ⟨⟨hv, ⟨(by decide : (0 : Int) ≤ 3), (by decide : (3 : Int) ≤ 3)⟩, fun _ => rfl, fun _ => rfl, fun hc => (by cases hc), fun hc => (by cases hc), hp⟩, c4⟩
  ·refine aK (cS n c4 (by decide)) fun y7 ⟨a7, b7, c7⟩ => aK (mK a7 (b7 (by decide))) fun e he => ?_
   refine oN (fun x => xE v x = true) (fun x hx => cA ⟨⟨hv, ⟨(by decide : (0 : Int) ≤ 0), (by decide : (0 : Int) ≤ 3)⟩, fun hc => absurd rfl hc, fun _ => rfl, fun _ => hx, fun hc => (by cases hc), hp⟩, c7⟩) fun j k => ?_
   simp only [List.mem_cons, List.not_mem_nil, or_false] at he
   exact Iu v y7 j (aA0 hv.1 hv.2) k 10 n e (by omega) (by omega) (by omega) (by omega)
 ·refine bO (fun _ => k 9 ⟨by decide, fun _ => by decide⟩) fun hc => k _ ⟨⟨a, b⟩, fun hs => ?_⟩
  simp only [bne_iff_ne, ne_eq, Bool.and_eq_false_iff, Bool.or_eq_false_iff, beq_eq_false_iff_ne] at hc
  rcases hc with hc | hc
  ·exact absurd (by simpa using hc) hs
  ·exact hc
theorem Jc (n : Nat) {p : aO} (h : bT p) : lJ (nV n p) fun y => Rn y.1 ∧ bT y.2 := by
 unfold nV
 refine aK (cS n h (by decide)) fun y ⟨a, b, c⟩ => ?_
 have b := b (by decide)
 refine aK (mK a b) fun e he => cA ⟨?_, c⟩
 show Rn e
 simp only [List.mem_cons, List.not_mem_nil, or_false] at he
 rcases he with rfl | rfl | rfl | rfl | rfl | rfl | rfl | rfl
 all_goals exact tS (by kernel_rfl)
theorem Dy (st : Int) (j : List Int → Int → List bN → Option (bK × aO)) {Q : bK × aO → Prop} (v67 v77 : Int) (v83 : ByteArray) (v95 : Int) (v101 : ByteArray) (v70 : List bZ) (hj : ∀ L A l, bT ⟨L, A⟩ → l.length ≤ 4 → (∀ d, d ∈ l → DOk st d) → lJ (j L A l) Q) : ∀ (k n : Nat) (q : Int) (L : List Int) (A : Int) (l : List bN), q = k → k + 30 < n → bT ⟨L, A⟩ → l.length + k ≤ 4 → (∀ d, d ∈ l → DOk st d) → lJ (kJ st j v67 v77 v83 v95 v101 v70 n q L A l) Q
 | k, 0, q, L, A, l, _, h, _, _, _ => by omega
 | 0, n + 1, q, L, A, l, hq, hn, h, hl, hd => by
  rw [kJ]
  exact bO (fun hc => by simp only [decide_eq_true_eq] at hc; omega) fun _ => hj L A l h (by omega) hd
 | k + 1, n + 1, q, L, A, l, hq, hn, h, hl, hd => by
  have hw : IntKind.wrap .i64 (q - 1) = q - 1 := Go.Bm.aU (by omega) (by omega)
  rw [kJ, hw]
  refine bO (fun _ => ?_) fun hc => by simp only [decide_eq_false_iff_not] at hc; omega
  refine aK (Ya n (by omega) h st) fun y ⟨hy, hc⟩ => aK (dU (by simp; omega) (by decide)) fun r hr => ?_
  subst hr
  refine Dy st j v67 v77 v83 v95 v101 v70 hj k n (q - 1) _ _ _ (by omega) (by omega) hc (by simp; omega) fun d hd' => ?_
  rcases List.mem_append.1 hd' with hd' | hd'
  ·exact hd d hd'
  ·simp only [List.mem_singleton] at hd'
   subst hd'
   exact hy
theorem Ek (j : List Int → Int → List bZ → Option (bK × aO)) {Q : bK × aO → Prop} (hj : ∀ L A l, bT ⟨L, A⟩ → l.length ≤ 6 → (∀ d, d ∈ l → Eo d) → lJ (j L A l) Q) : ∀ (k n : Nat) (q : Int) (L : List Int) (A : Int) (l : List bZ), q = k → k + 50 < n → bT ⟨L, A⟩ → l.length + k ≤ 6 → (∀ d, d ∈ l → Eo d) → lJ (kT j n q L A l) Q
 | k, 0, q, L, A, l, _, h, _, _, _ => by omega
 | 0, n + 1, q, L, A, l, hq, hn, h, hl, hd => by
  rw [kT]
  exact bO (fun hc => by simp only [decide_eq_true_eq] at hc; omega) fun _ => hj L A l h (by omega) hd
 | k + 1, n + 1, q, L, A, l, hq, hn, h, hl, hd => by
  have hw : IntKind.wrap .i64 (q - 1) = q - 1 := Go.Bm.aU (by omega) (by omega)
  rw [kT, hw]
  refine bO (fun _ => ?_) fun hc => by simp only [decide_eq_false_iff_not] at hc; omega
  refine bX (fun L A (l : List bZ) => bT ⟨L, A⟩ ∧ l.length + k ≤ 6 ∧ ∀ d, d ∈ l → Eo d) (fun L A l ⟨a, b, c⟩ => Ek j hj k n (q - 1) L A l (by omega) (by omega) a b c) fun j1 k1 => ?_
  refine bX (fun L A (x : Int) => bT ⟨L, A⟩ ∧ 0 ≤ x ∧ x ≤ 13) (fun L2 A2 kd ⟨s2, hk1, hk2⟩ => ?_) fun j2 k2 => ?_
  rotate_left
  ·exact aK (cS n h (by decide)) fun y ⟨_, _, c⟩ => bO (fun _ => aK (cS n c (by decide)) fun z ⟨a, b, c⟩ => k2 _ _ _ ⟨c, a, by have := b (by decide); omega⟩) fun _ => k2 _ _ _ ⟨c, by decide, by decide⟩
  refine bX (fun L A (x : ByteArray) => bT ⟨L, A⟩ ∧ (x = (⟨#[]⟩ : ByteArray) ∨ Rn x)) (fun L3 A3 cl ⟨s3, hcl⟩ => ?_) fun j3 k3 => ?_
  rotate_left
  ·exact aK (cS n s2 (by decide)) fun y ⟨_, _, c⟩ => bO (fun _ => aK (Jc n c) fun z ⟨a, c⟩ => k3 _ _ _ ⟨c, .inr a⟩) fun _ => k3 _ _ _ ⟨c, .inl rfl⟩
  refine bX (fun L A (x : Int) => bT ⟨L, A⟩ ∧ 0 ≤ x ∧ x ≤ 31) (fun L4 A4 st ⟨s4, hs1, hs2⟩ => ?_) fun j4 k4 => ?_
  rotate_left
  ·exact aK (cS n s3 (by decide)) fun y ⟨_, _, c⟩ => bO (fun _ => aK (cS n c (by decide)) fun z ⟨a, b, c⟩ => k4 _ _ _ ⟨c, a, by have := b (by decide); omega⟩) fun _ => k4 _ _ _ ⟨c, by decide, by decide⟩
  refine bX (fun L A (x : Int) => bT ⟨L, A⟩ ∧ 0 ≤ x ∧ x ≤ 13) (fun L5 A5 uk ⟨s5, hu1, hu2⟩ => ?_) fun j5 k5 => ?_
  rotate_left
  ·exact aK (cS n s4 (by decide)) fun y ⟨_, _, c⟩ => bO (fun _ => aK (cS n c (by decide)) fun z ⟨a, b, c⟩ => k5 _ _ _ ⟨c, a, by have := b (by decide); omega⟩) fun _ => k5 _ _ _ ⟨c, by decide, by decide⟩
  refine bX (fun L A (x : ByteArray) => bT ⟨L, A⟩ ∧ (x = (⟨#[]⟩ : ByteArray) ∨ Rn x)) (fun L6 A6 uc ⟨s6, huc⟩ => ?_) fun j6 k6 => ?_
  rotate_left
  ·exact aK (cS n s5 (by decide)) fun y ⟨_, _, c⟩ => bO (fun _ => aK (Jc n c) fun z ⟨a, c⟩ => k6 _ _ _ ⟨c, .inr a⟩) fun _ => k6 _ _ _ ⟨c, .inl rfl⟩
  refine bX (fun L A (ds : List bN) => bT ⟨L, A⟩ ∧ ds.length ≤ 4 ∧ ∀ d, d ∈ ds → DOk st d) (fun L7 A7 ds ⟨s7, hd1, hd2⟩ => ?_) fun j7 k7 => ?_
  ·refine aK (dU (by simp; omega) (by decide)) fun r hr => ?_
   subst hr
   refine k1 _ _ _ ⟨s7, by simp; omega, fun d hd' => ?_⟩
   rcases List.mem_append.1 hd' with hd' | hd'
   ·exact hd d hd'
   ·simp only [List.mem_singleton] at hd'
    subst hd'
    exact ⟨⟨hk1, hk2⟩, hcl, ⟨hs1, hs2⟩, ⟨hu1, hu2⟩, huc, hd1, hd2⟩
  ·refine aK (wM n s6 (by decide) (by decide) (by decide)) fun y ⟨a, b, c⟩ => ?_
   exact Dy st j7 _ _ _ _ _ _ (fun L A l x y z => k7 L A l ⟨x, y, z⟩) y.1.toNat n y.1 _ _ [] (by omega) (by omega) c (by simp; omega) fun d hd => nomatch hd
theorem Uq (n : Nat) (hn : 100 ≤ n) {p : aO} (h : bT p) : lJ (sO n p) fun y => kO y.1 ∧ bT y.2 := by
 unfold sO
 refine bX (fun L A (l : List bZ) => bT ⟨L, A⟩ ∧ l.length ≤ 6 ∧ ∀ d, d ∈ l → Eo d) (fun L A l ⟨a, b, c⟩ => cA ⟨⟨b, c⟩, a⟩) fun j k => ?_
 refine aK (cS n h (by decide)) fun y ⟨a, b, c⟩ => ?_
 have b := b (by decide)
 exact Ek j (fun L A l x y z => k L A l ⟨x, y, z⟩) y.1.toNat n y.1 _ _ [] (by omega) (by omega) c (by simp; omega) fun d hd => nomatch hd
theorem Co (t : bB) (hz : t.Nodes.length ≤ 1000) (j : List aT → List Int → Int → Option ((List aT) × aO)) {Q : (List aT) × aO → Prop} (hj : ∀ l L A, bT ⟨L, A⟩ → l.length ≤ 1000 → (∀ s, s ∈ l → 0 ≤ s.States ∧ s.States < 32) → lJ (j l L A) Q) : ∀ (k i n : Nat) (l : List aT) (L : List Int) (A : Int), i + k = t.Nodes.length → k < n → bT ⟨L, A⟩ → l.length + k ≤ 1000 → (∀ s, s ∈ l → 0 ≤ s.States ∧ s.States < 32) → lJ (jQ t j n l (i : Int) L A) Q
 | k, i, 0, l, L, A, _, h, _, _, _ => by omega
 | 0, i, n + 1, l, L, A, hi, hn, h, hl, hs => by
  rw [jQ]
  exact bO (fun hc => by simp only [decide_eq_true_eq] at hc; omega) fun _ => hj l L A h (by omega) hs
 | k + 1, i, n + 1, l, L, A, hi, hn, h, hl, hs => by
  have hw : IntKind.wrap .i64 ((i : Int) + 1) = ((i + 1 : Nat) : Int) := by rw [Go.Bm.aU (by omega) (by omega)]; omega
  rw [jQ, hw]
  refine bO (fun _ => ?_) fun hc => by simp only [decide_eq_false_iff_not] at hc; omega
  refine bX (fun (l : List aT) L A => bT ⟨L, A⟩ ∧ l.length + k ≤ 1000 ∧ ∀ s, s ∈ l → 0 ≤ s.States ∧ s.States < 32) (fun l L A ⟨a, b, c⟩ => Co t hz j hj k (i + 1) n l L A (by omega) (by omega) a b c) fun j1 k1 => ?_
  refine aK (cS n h (by decide)) fun y ⟨_, _, c⟩ => bO (fun _ => ?_) fun _ => k1 _ _ _ ⟨c, by omega, hs⟩
  refine aK (mK (by omega) (by omega)) fun e he => aK (cS n c (by decide)) fun z ⟨a, b, c⟩ => aK (dU (by simp; omega) (by decide)) fun r hr => ?_
  subst hr
  refine k1 _ _ _ ⟨c, by simp; omega, fun s hs' => ?_⟩
  rcases List.mem_append.1 hs' with hs' | hs'
  ·exact hs s hs'
  ·simp only [List.mem_singleton] at hs'
   subst hs'
   exact ⟨a, b (by decide)⟩
theorem Qc (n : Nat) {t : bB} (hz : t.Nodes.length ≤ 400) (hn : 500 ≤ n) {p : aO} (h : bT p) : lJ (qZ n p t) fun y => (y.1.length ≤ 1000 ∧ ∀ s, s ∈ y.1 → 0 ≤ s.States ∧ s.States < 32) ∧ bT y.2 := by
 unfold qZ
 refine bX (fun (l : List aT) L A => bT ⟨L, A⟩ ∧ l.length ≤ 1000 ∧ ∀ s, s ∈ l → 0 ≤ s.States ∧ s.States < 32) (fun l L A ⟨a, b, c⟩ => cA ⟨⟨b, c⟩, a⟩) fun j k => ?_
 exact Co t (by omega) j (fun l L A a b c => k l L A ⟨a, b, c⟩) t.Nodes.length 0 n [] p.L p.At (by omega) (by omega) h (by simp; omega) fun s hs => nomatch hs
end Go.Proofs.YtojkihhnioeggaaGreatDoor.S
