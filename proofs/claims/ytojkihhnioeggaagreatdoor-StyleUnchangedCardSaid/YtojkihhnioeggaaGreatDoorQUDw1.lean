import Derived.Test.YtojkihhnioeggaaGreatDoorQUGM13
import Derived.Test.YtojkihhnioeggaaGreatDoorQURc1
import Derived.WalkKit
import Derived.WalkSpells
import Derived.WalkLawsBesides
import Derived.Deep.QuietTactic
import Derived.BigQuiet
import Derived.BigRegion
import Derived.Lib.Hide
import Derived.Deep.RegionWith
set_option linter.unusedSimpArgs false
set_option linter.unusedVariables false
set_option linter.unusedSimpArgs false
set_option linter.unusedVariables false
namespace Go.Proofs.YtojkihhnioeggaaGreatDoor.S
open Go Go.Bm
theorem Dj (p : Int) : p < 0 ∨ 22 ≤ p ∨ ∃ k, k ∈ List.range 22 ∧ p = (k : Int) := by
 by_cases h : p < 0
 ·exact .inl h
 by_cases h2 : 22 ≤ p
 ·exact .inr (.inl h2)
 exact .inr (.inr ⟨p.toNat, by simp; omega, by omega⟩)
theorem rng_in (n : Nat) (q : Int) (k : Nat) (hk : k ∈ List.range 22) : ∃ b, dC n (k : Int) q = some b ∧ dK n (k : Int) q = some b := by
 have : k < 22 := by simpa using hk
 have key : ∀ (p lo hi : Int) (e : cA), gX n p = some true → idx aY p = some e → e.low = lo → e.high = hi → dK n p q = some ((((true && true) && (decide (q ≥ lo))) && (decide (q ≤ hi)))) → ∃ b, dC n p q = some b ∧ dK n p q = some b := fun p lo hi e h1 h2 h3 h4 h5 => by
  subst h3 h4
  refine ⟨_, ?_, h5⟩
  unfold dC
  rw [h1, h2]
  cases hd : decide (q ≥ e.low) <;> simp only [hd, Option.bind_some, gd, List.all_cons, List.all_nil, id, Bool.and_true, Bool.true_and, if_true, Bool.false_eq_true, if_false, Bool.false_and]
 rcases k with _ | _ | _ | _ | _ | _ | _ | _ | _ | _ | _ | _ | _ | _ | _ | _ | _ | _ | _ | _ | _ | _ | k
 iterate 22 exact key _ _ _ _ rfl rfl rfl rfl rfl
 omega
theorem rng (n : Nat) (p q : Int) : ∃ b, dC n p q = some b ∧ dK n p q = some b := by
 rcases Dj p with h | h | ⟨k, hk, rfl⟩
 ·refine ⟨false, ?_, ?_⟩
  ·have h1 : decide (p ≥ 0) = false := by simp; omega
   simp [dC, gX, gd, h1]
  ·have e : ∀ m : Int, 0 ≤ m → (p == m) = false := fun m hm => by simp; omega
   have h1 : decide (p ≥ 0) = false := by simp; omega
   simp [dK, aS, e, h1]
 ·refine ⟨false, ?_, ?_⟩
  ·have h1 : decide (p < 22) = false := by simp; omega
   simp [dC, gX, gd, h1]
  ·have e : ∀ m : Int, m < 22 → (p == m) = false := fun m hm => by simp; omega
   have h1 : decide (p < 22) = false := by simp; omega
   simp [dK, aS, e, h1]
 ·exact rng_in n q k hk
def wX (p q : Int) : Bool := (dC 0 p q).getD false
theorem Fw (n : Nat) (p q : Int) : dC n p q = some (wX p q) ∧ dK n p q = some (wX p q) := by
 obtain ⟨b, h1, h2⟩ := rng 0 p q
 have e : wX p q = b := by unfold wX; rw [h1]; rfl
 rw [e]
 exact ⟨h1, h2⟩
theorem Zp {p : Int} (h0 : 0 ≤ p) (h1 : p < 22) : wX p 1 = true := by
 rcases Dj p with h | h | ⟨k, hk, rfl⟩
 ·omega
 ·omega
 ·have : k < 22 := by simpa using hk
  rcases k with _ | _ | _ | _ | _ | _ | _ | _ | _ | _ | _ | _ | _ | _ | _ | _ | _ | _ | _ | _ | _ | _ | k
  iterate 22 exact congrArg (fun x => x.getD false) (by kernel_rfl : dC 0 _ 1 = some true)
  omega
structure DOk (st : Int) (d : bM) : Prop where
 prop : 0 ≤ d.Prop_ ∧ d.Prop_ < 22
 src : 0 ≤ d.Source ∧ d.Source ≤ 3
 num : d.Source ≠ 0 → d.N = 0
 tok : d.Source ≠ 1 → d.Token = (⟨#[]⟩ : ByteArray)
 rng : d.Source = 0 → wX d.Prop_ d.N = true
 name : d.Source = 1 → Qw d.Token
 pass : mI .i64 st 7 ≠ 0 → d.Prop_ ≠ 5 ∧ d.Prop_ ≠ 21
structure Eb (r : bY) : Prop where
 kind : 0 ≤ r.Kind ∧ r.Kind ≤ 13
 cls : r.Class = (⟨#[]⟩ : ByteArray) ∨ Qw r.Class
 st : 0 ≤ r.States ∧ r.States ≤ 31
 uk : 0 ≤ r.UnderKind ∧ r.UnderKind ≤ 13
 uc : r.UnderClass = (⟨#[]⟩ : ByteArray) ∨ Qw r.UnderClass
 len : r.Decls.length ≤ 4
 dec : ∀ d, d ∈ r.Decls → DOk r.States d
structure iX (s : bH) : Prop where
 len : s.Rules.length ≤ 6
 ok : ∀ r, r ∈ s.Rules → Eb r
theorem Ig (p : Int) (y7 : Int × aN) (j : Int → Option (bM × aN)) {Q : bM × aN → Prop} (h1 : wX p 1 = true) (hj : ∀ x, wX p x = true → kV (j x) Q) : ∀ (k n : Nat) (x : Int), -1 ≤ x → x ≤ 2 ^ k → x ≤ 1000000 → k < n → kV (nD p j y7 n x) Q
 | k, 0, x, _, _, _, h => by omega
 | k, n + 1, x, h0, hx, hbig, hn => by
  rw [nD, (Fw n p x).2]
  refine aG (P := fun b => b = wX p x) (bX rfl) fun b hb => ?_
  subst hb
  refine bN (fun _ => ?_) fun hr => hj x (by simpa using hr)
  refine bN (fun _ => hj 1 h1) fun hm => ?_
  simp only [decide_eq_false_iff_not] at hm
  by_cases hneg : x < 0
  ·obtain rfl : x = -1 := by omega
   exact absurd (by decide : Gv 0 (IntKind.wrap .i64 (Int.tdiv (-1) 2)) < 2) hm
  ·have ht : Int.tdiv x 2 = x / 2 := Int.tdiv_eq_ediv_of_nonneg (by omega)
   match k, hx, hn with
   | 0, hx, hn =>
    have : x = 0 ∨ x = 1 := by simp at hx; omega
    rcases this with rfl | rfl
    ·exact absurd (by decide : Gv 0 (IntKind.wrap .i64 (Int.tdiv 0 2)) < 2) hm
    ·exact absurd (by decide : Gv 0 (IntKind.wrap .i64 (Int.tdiv 1 2)) < 2) hm
   | k + 1, hx, hn =>
    have hw : IntKind.wrap .i64 (Int.tdiv x 2) = x / 2 := by rw [ht]; exact Go.Bm.aT (by omega) (by omega)
    have hmx : Gv 0 (x / 2) = x / 2 := by unfold Gv; split <;> omega
    rw [hw, hmx] at hm ⊢
    rw [Int.pow_succ] at hx
    exact Ig p y7 j h1 hj k n (x / 2) (by omega) (by omega) (by omega) (by omega)
theorem Xp (n : Nat) (hn : 20 ≤ n) {p : aN} (h : bR p) (st : Int) : kV (vL n p st) fun y => DOk st y.1 ∧ bR y.2 := by
 unfold vL
 refine aG (cV n h (by decide)) fun y1 ⟨a, b, c⟩ => ?_
 have b := b (by decide)
 refine qC (fun v => (0 ≤ v ∧ v < 22) ∧ (mI .i64 st 7 ≠ 0 → v ≠ 5 ∧ v ≠ 21)) (fun v ⟨hv, hp⟩ => ?_) fun j k => ?_
 ·refine aG (cV n c (by decide)) fun y4 ⟨_, _, c4⟩ => bN (fun _ => ?_) fun _ => bN (fun _ => ?_) fun _ => bN (fun _ => ?_) fun _ => ?_
  ·refine aG (cV n c4 (by decide)) fun y5 ⟨a5, b5, c5⟩ => aG (lV a5 (b5 (by decide))) fun e he => bX ⟨⟨hv, ⟨(by decide : (0 : Int) ≤ 1), (by decide : (1 : Int) ≤ 3)⟩, fun _ => rfl, fun hc => absurd rfl hc, fun hc => (by cases hc), fun _ => ?_, hp⟩, c5⟩
   show Qw e
   simp only [List.mem_cons, List.not_mem_nil, or_false] at he
   rcases he with rfl | rfl | rfl | rfl
   ·exact tR (by kernel_rfl)
   ·exact tR (by kernel_rfl)
   ·exact tR (by kernel_rfl)
   ·exact tR (by kernel_rfl)
  ·exact bX ⟨⟨hv, ⟨(by decide : (0 : Int) ≤ 2), (by decide : (2 : Int) ≤ 3)⟩, fun _ => rfl, fun _ => rfl, fun hc => (by cases hc), fun hc => (by cases hc), hp⟩, c4⟩
  ·exact bX ⟨⟨hv, ⟨(by decide : (0 : Int) ≤ 3), (by decide : (3 : Int) ≤ 3)⟩, fun _ => rfl, fun _ => rfl, fun hc => (by cases hc), fun hc => (by cases hc), hp⟩, c4⟩
  ·refine aG (cV n c4 (by decide)) fun y7 ⟨a7, b7, c7⟩ => aG (lV a7 (b7 (by decide))) fun e he => ?_
   refine qC (fun x => wX v x = true) (fun x hx => bX ⟨⟨hv, ⟨(by decide : (0 : Int) ≤ 0), (by decide : (0 : Int) ≤ 3)⟩, fun hc => absurd rfl hc, fun _ => rfl, fun _ => hx, fun hc => (by cases hc), hp⟩, c7⟩) fun j k => ?_
   simp only [List.mem_cons, List.not_mem_nil, or_false] at he
   exact Ig v y7 j (Zp hv.1 hv.2) k 10 n e (by omega) (by omega) (by omega) (by omega)
 ·refine bN (fun _ => k 9 ⟨by decide, fun _ => by decide⟩) fun hc => k _ ⟨⟨a, b⟩, fun hs => ?_⟩
  simp only [bne_iff_ne, ne_eq, Bool.and_eq_false_iff, Bool.or_eq_false_iff, beq_eq_false_iff_ne] at hc
  rcases hc with hc | hc
  ·exact absurd (by simpa using hc) hs
  ·exact hc
theorem Ip (n : Nat) {p : aN} (h : bR p) : kV (nJ n p) fun y => Qw y.1 ∧ bR y.2 := by
 unfold nJ
 refine aG (cV n h (by decide)) fun y ⟨a, b, c⟩ => ?_
 have b := b (by decide)
 refine aG (lV a b) fun e he => bX ⟨?_, c⟩
 show Qw e
 simp only [List.mem_cons, List.not_mem_nil, or_false] at he
 rcases he with rfl | rfl | rfl | rfl | rfl | rfl | rfl | rfl
 all_goals exact tR (by kernel_rfl)
theorem Dl (st : Int) (j : List Int → Int → List bM → Option (bH × aN)) {Q : bH × aN → Prop} (v67 v77 : Int) (v83 : ByteArray) (v95 : Int) (v101 : ByteArray) (v70 : List bY) (hj : ∀ L A l, bR ⟨L, A⟩ → l.length ≤ 4 → (∀ d, d ∈ l → DOk st d) → kV (j L A l) Q) : ∀ (k n : Nat) (q : Int) (L : List Int) (A : Int) (l : List bM), q = k → k + 30 < n → bR ⟨L, A⟩ → l.length + k ≤ 4 → (∀ d, d ∈ l → DOk st d) → kV (jW st j v67 v77 v83 v95 v101 v70 n q L A l) Q
 | k, 0, q, L, A, l, _, h, _, _, _ => by omega
 | 0, n + 1, q, L, A, l, hq, hn, h, hl, hd => by
  rw [jW]
  exact bN (fun hc => by simp only [decide_eq_true_eq] at hc; omega) fun _ => hj L A l h (by omega) hd
 | k + 1, n + 1, q, L, A, l, hq, hn, h, hl, hd => by
  have hw : IntKind.wrap .i64 (q - 1) = q - 1 := Go.Bm.aT (by omega) (by omega)
  rw [jW, hw]
  refine bN (fun _ => ?_) fun hc => by simp only [decide_eq_false_iff_not] at hc; omega
  refine aG (Xp n (by omega) h st) fun y ⟨hy, hc⟩ => aG (dV (by simp; omega) (by decide)) fun r hr => ?_
  subst hr
  refine Dl st j v67 v77 v83 v95 v101 v70 hj k n (q - 1) _ _ _ (by omega) (by omega) hc (by simp; omega) fun d hd' => ?_
  rcases List.mem_append.1 hd' with hd' | hd'
  ·exact hd d hd'
  ·simp only [List.mem_singleton] at hd'
   subst hd'
   exact hy
theorem Dx (j : List Int → Int → List bY → Option (bH × aN)) {Q : bH × aN → Prop} (hj : ∀ L A l, bR ⟨L, A⟩ → l.length ≤ 6 → (∀ d, d ∈ l → Eb d) → kV (j L A l) Q) : ∀ (k n : Nat) (q : Int) (L : List Int) (A : Int) (l : List bY), q = k → k + 50 < n → bR ⟨L, A⟩ → l.length + k ≤ 6 → (∀ d, d ∈ l → Eb d) → kV (kG j n q L A l) Q
 | k, 0, q, L, A, l, _, h, _, _, _ => by omega
 | 0, n + 1, q, L, A, l, hq, hn, h, hl, hd => by
  rw [kG]
  exact bN (fun hc => by simp only [decide_eq_true_eq] at hc; omega) fun _ => hj L A l h (by omega) hd
 | k + 1, n + 1, q, L, A, l, hq, hn, h, hl, hd => by
  have hw : IntKind.wrap .i64 (q - 1) = q - 1 := Go.Bm.aT (by omega) (by omega)
  rw [kG, hw]
  refine bN (fun _ => ?_) fun hc => by simp only [decide_eq_false_iff_not] at hc; omega
  refine bU (fun L A (l : List bY) => bR ⟨L, A⟩ ∧ l.length + k ≤ 6 ∧ ∀ d, d ∈ l → Eb d) (fun L A l ⟨a, b, c⟩ => Dx j hj k n (q - 1) L A l (by omega) (by omega) a b c) fun j1 k1 => ?_
  refine bU (fun L A (x : Int) => bR ⟨L, A⟩ ∧ 0 ≤ x ∧ x ≤ 13) (fun L2 A2 kd ⟨s2, hk1, hk2⟩ => ?_) fun j2 k2 => ?_
  rotate_left
  ·exact aG (cV n h (by decide)) fun y ⟨_, _, c⟩ => bN (fun _ => aG (cV n c (by decide)) fun z ⟨a, b, c⟩ => k2 _ _ _ ⟨c, a, by have := b (by decide); omega⟩) fun _ => k2 _ _ _ ⟨c, by decide, by decide⟩
  refine bU (fun L A (x : ByteArray) => bR ⟨L, A⟩ ∧ (x = (⟨#[]⟩ : ByteArray) ∨ Qw x)) (fun L3 A3 cl ⟨s3, hcl⟩ => ?_) fun j3 k3 => ?_
  rotate_left
  ·exact aG (cV n s2 (by decide)) fun y ⟨_, _, c⟩ => bN (fun _ => aG (Ip n c) fun z ⟨a, c⟩ => k3 _ _ _ ⟨c, .inr a⟩) fun _ => k3 _ _ _ ⟨c, .inl rfl⟩
  refine bU (fun L A (x : Int) => bR ⟨L, A⟩ ∧ 0 ≤ x ∧ x ≤ 31) (fun L4 A4 st ⟨s4, hs1, hs2⟩ => ?_) fun j4 k4 => ?_
  rotate_left
  ·exact aG (cV n s3 (by decide)) fun y ⟨_, _, c⟩ => bN (fun _ => aG (cV n c (by decide)) fun z ⟨a, b, c⟩ => k4 _ _ _ ⟨c, a, by have := b (by decide); omega⟩) fun _ => k4 _ _ _ ⟨c, by decide, by decide⟩
  refine bU (fun L A (x : Int) => bR ⟨L, A⟩ ∧ 0 ≤ x ∧ x ≤ 13) (fun L5 A5 uk ⟨s5, hu1, hu2⟩ => ?_) fun j5 k5 => ?_
  rotate_left
  ·exact aG (cV n s4 (by decide)) fun y ⟨_, _, c⟩ => bN (fun _ => aG (cV n c (by decide)) fun z ⟨a, b, c⟩ => k5 _ _ _ ⟨c, a, by have := b (by decide); omega⟩) fun _ => k5 _ _ _ ⟨c, by decide, by decide⟩
  refine bU (fun L A (x : ByteArray) => bR ⟨L, A⟩ ∧ (x = (⟨#[]⟩ : ByteArray) ∨ Qw x)) (fun L6 A6 uc ⟨s6, huc⟩ => ?_) fun j6 k6 => ?_
  rotate_left
  ·exact aG (cV n s5 (by decide)) fun y ⟨_, _, c⟩ => bN (fun _ => aG (Ip n c) fun z ⟨a, c⟩ => k6 _ _ _ ⟨c, .inr a⟩) fun _ => k6 _ _ _ ⟨c, .inl rfl⟩
  refine bU (fun L A (ds : List bM) => bR ⟨L, A⟩ ∧ ds.length ≤ 4 ∧ ∀ d, d ∈ ds → DOk st d) (fun L7 A7 ds ⟨s7, hd1, hd2⟩ => ?_) fun j7 k7 => ?_
  ·refine aG (dV (by simp; omega) (by decide)) fun r hr => ?_
   subst hr
   refine k1 _ _ _ ⟨s7, by simp; omega, fun d hd' => ?_⟩
   rcases List.mem_append.1 hd' with hd' | hd'
   ·exact hd d hd'
   ·simp only [List.mem_singleton] at hd'
    subst hd'
    exact ⟨⟨hk1, hk2⟩, hcl, ⟨hs1, hs2⟩, ⟨hu1, hu2⟩, huc, hd1, hd2⟩
  ·refine aG (Ab n s6 (by decide) (by decide) (by decide)) fun y ⟨a, b, c⟩ => ?_
   exact Dl st j7 _ _ _ _ _ _ (fun L A l x y z => k7 L A l ⟨x, y, z⟩) y.1.toNat n y.1 _ _ [] (by omega) (by omega) c (by simp; omega) fun d hd => nomatch hd
theorem Ue (n : Nat) (hn : 100 ≤ n) {p : aN} (h : bR p) : kV (sK n p) fun y => iX y.1 ∧ bR y.2 := by
 unfold sK
 refine bU (fun L A (l : List bY) => bR ⟨L, A⟩ ∧ l.length ≤ 6 ∧ ∀ d, d ∈ l → Eb d) (fun L A l ⟨a, b, c⟩ => bX ⟨⟨b, c⟩, a⟩) fun j k => ?_
 refine aG (cV n h (by decide)) fun y ⟨a, b, c⟩ => ?_
 have b := b (by decide)
 exact Dx j (fun L A l x y z => k L A l ⟨x, y, z⟩) y.1.toNat n y.1 _ _ [] (by omega) (by omega) c (by simp; omega) fun d hd => nomatch hd
theorem Cc (t : bA) (hz : t.Nodes.length ≤ 1000) (j : List aR → List Int → Int → Option ((List aR) × aN)) {Q : (List aR) × aN → Prop} (hj : ∀ l L A, bR ⟨L, A⟩ → l.length ≤ 1000 → (∀ s, s ∈ l → 0 ≤ s.States ∧ s.States < 32) → kV (j l L A) Q) : ∀ (k i n : Nat) (l : List aR) (L : List Int) (A : Int), i + k = t.Nodes.length → k < n → bR ⟨L, A⟩ → l.length + k ≤ 1000 → (∀ s, s ∈ l → 0 ≤ s.States ∧ s.States < 32) → kV (jJ t j n l (i : Int) L A) Q
 | k, i, 0, l, L, A, _, h, _, _, _ => by omega
 | 0, i, n + 1, l, L, A, hi, hn, h, hl, hs => by
  rw [jJ]
  exact bN (fun hc => by simp only [decide_eq_true_eq] at hc; omega) fun _ => hj l L A h (by omega) hs
 | k + 1, i, n + 1, l, L, A, hi, hn, h, hl, hs => by
  have hw : IntKind.wrap .i64 ((i : Int) + 1) = ((i + 1 : Nat) : Int) := by rw [Go.Bm.aT (by omega) (by omega)]; omega
  rw [jJ, hw]
  refine bN (fun _ => ?_) fun hc => by simp only [decide_eq_false_iff_not] at hc; omega
  refine bU (fun (l : List aR) L A => bR ⟨L, A⟩ ∧ l.length + k ≤ 1000 ∧ ∀ s, s ∈ l → 0 ≤ s.States ∧ s.States < 32) (fun l L A ⟨a, b, c⟩ => Cc t hz j hj k (i + 1) n l L A (by omega) (by omega) a b c) fun j1 k1 => ?_
  refine aG (cV n h (by decide)) fun y ⟨_, _, c⟩ => bN (fun _ => ?_) fun _ => k1 _ _ _ ⟨c, by omega, hs⟩
  refine aG (lV (by omega) (by omega)) fun e he => aG (cV n c (by decide)) fun z ⟨a, b, c⟩ => aG (dV (by simp; omega) (by decide)) fun r hr => ?_
  subst hr
  refine k1 _ _ _ ⟨c, by simp; omega, fun s hs' => ?_⟩
  rcases List.mem_append.1 hs' with hs' | hs'
  ·exact hs s hs'
  ·simp only [List.mem_singleton] at hs'
   subst hs'
   exact ⟨a, b (by decide)⟩
theorem Pn (n : Nat) {t : bA} (hz : t.Nodes.length ≤ 400) (hn : 500 ≤ n) {p : aN} (h : bR p) : kV (qM n p t) fun y => (y.1.length ≤ 1000 ∧ ∀ s, s ∈ y.1 → 0 ≤ s.States ∧ s.States < 32) ∧ bR y.2 := by
 unfold qM
 refine bU (fun (l : List aR) L A => bR ⟨L, A⟩ ∧ l.length ≤ 1000 ∧ ∀ s, s ∈ l → 0 ≤ s.States ∧ s.States < 32) (fun l L A ⟨a, b, c⟩ => bX ⟨⟨b, c⟩, a⟩) fun j k => ?_
 exact Cc t (by omega) j (fun l L A a b c => k l L A ⟨a, b, c⟩) t.Nodes.length 0 n [] p.L p.At (by omega) (by omega) h (by simp; omega) fun s hs => nomatch hs
end Go.Proofs.YtojkihhnioeggaaGreatDoor.S
