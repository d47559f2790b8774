import Derived.Test.YtojkihhnioeggaaGreatDoorQVw3
import Derived.WalkKit
import Derived.WalkSpells
import Derived.WalkLawsBesides
import Derived.Deep.QuietTactic
import Derived.BigQuiet
import Derived.BigRegion
import Derived.Lib.Hide
import Derived.Deep.RegionWith
set_option linter.unusedSimpArgs false
set_option linter.unusedVariables false
set_option linter.unusedSimpArgs false
set_option linter.unusedVariables false
namespace Go.Proofs.YtojkihhnioeggaaGreatDoor.S
open Go Go.Bm
theorem Od (a : Int) (ha : -1099511627776 ≤ a ∧ a ≤ 1099511627776) : Jw ⟨4, 0, (⟨#[]⟩ : ByteArray), [⟨1, a, (⟨#[]⟩ : ByteArray), []⟩]⟩ := by
 have w1 : IntKind.wrap .i64 (1 : Int) = 1 := by decide
 have w2 : IntKind.wrap .i64 (2 : Int) = 2 := by decide
 have w3 : IntKind.wrap .i64 (3 : Int) = 3 := by decide
 have w4 : IntKind.wrap .i64 (4 : Int) = 4 := by decide
 refine ⟨fun n hn => ?_, fun n hn => ?_, fun n hn => by obtain ⟨m, rfl⟩ : ∃ m, n = m + 20 := ⟨n - 20, by omega⟩; kernel_rfl⟩
 ·obtain ⟨m, rfl⟩ : ∃ m, n = m + 150 := ⟨n - 150, by omega⟩
  have hcm : ∀ q, lQ (q + 50) [aQ.mk 1 []] = some (⟨4, [⟨1, []⟩]⟩, true) := fun q => by kernel_rfl
  have hy : fT (m + 150) ⟨4, [⟨1, []⟩]⟩ = some ⟨4, [⟨1, []⟩]⟩ := by kernel_rfl
  have e : dO (m + 150) ⟨4, 0, (⟨#[]⟩ : ByteArray), [⟨1, a, (⟨#[]⟩ : ByteArray), []⟩]⟩ 0 0 = some (⟨4, [⟨1, []⟩]⟩, 0, 2) := by
   rw [dO, dZ]
   simp [gZ, hZ, aX, gd, gT, Tb, w1, mZ.prog (m + 149) (by omega)]
   have hcm := hcm (m + 99)
   simp [iF, idx, w1, w2, w3, w4, oK, pD a ha.1 ha.2 (m + 149) (by omega) 1 1 (by omega), hcm]
  unfold iX kD
  rw [e]
  simp [hy]
 ·obtain ⟨m, rfl⟩ : ∃ m, n = m + 150 := ⟨n - 150, by omega⟩
  have hj : ∀ q, kG (q + 50) ⟨1, []⟩ ⟨1, []⟩ = some (⟨1, []⟩, true) := fun q => by kernel_rfl
  have e : cW (m + 150) ⟨4, 0, (⟨#[]⟩ : ByteArray), [⟨1, a, (⟨#[]⟩ : ByteArray), []⟩]⟩ 1 0 = some (⟨4, [⟨1, []⟩]⟩, 2, 0) := by
   rw [cW, dI]
   simp [aX, gd, gT, Tb, w1, mZ.ref (m + 149) (by omega)]
   have h1 := hj (m + 98); have h2 := hj (m + 97); have h3 := hj (m + 96)
   simp [dY, aX, idx, w1, w2, w3, w4, oX a ha.1 ha.2 (m + 149) (by omega) 2 1 (by omega), h1, h2, h3]
  unfold hP iY
  rw [e]
  rfl
theorem Oc (a : Int) (ha : -1099511627776 ≤ a ∧ a ≤ 1099511627776) (b : Int) (hb : -1099511627776 ≤ b ∧ b ≤ 1099511627776) : Jw ⟨4, 0, (⟨#[]⟩ : ByteArray), [⟨1, a, (⟨#[]⟩ : ByteArray), []⟩, ⟨1, b, (⟨#[]⟩ : ByteArray), []⟩]⟩ := by
 have w1 : IntKind.wrap .i64 (1 : Int) = 1 := by decide
 have w2 : IntKind.wrap .i64 (2 : Int) = 2 := by decide
 have w3 : IntKind.wrap .i64 (3 : Int) = 3 := by decide
 have w4 : IntKind.wrap .i64 (4 : Int) = 4 := by decide
 refine ⟨fun n hn => ?_, fun n hn => ?_, fun n hn => by obtain ⟨m, rfl⟩ : ∃ m, n = m + 20 := ⟨n - 20, by omega⟩; kernel_rfl⟩
 ·obtain ⟨m, rfl⟩ : ∃ m, n = m + 150 := ⟨n - 150, by omega⟩
  have hcm : ∀ q, lQ (q + 50) [aQ.mk 1 [], aQ.mk 1 []] = some (⟨4, [⟨1, []⟩]⟩, true) := fun q => by kernel_rfl
  have hy : fT (m + 150) ⟨4, [⟨1, []⟩]⟩ = some ⟨4, [⟨1, []⟩]⟩ := by kernel_rfl
  have e : dO (m + 150) ⟨4, 0, (⟨#[]⟩ : ByteArray), [⟨1, a, (⟨#[]⟩ : ByteArray), []⟩, ⟨1, b, (⟨#[]⟩ : ByteArray), []⟩]⟩ 0 0 = some (⟨4, [⟨1, []⟩]⟩, 0, 3) := by
   rw [dO, dZ]
   simp [gZ, hZ, aX, gd, gT, Tb, w1, mZ.prog (m + 149) (by omega)]
   have hcm := hcm (m + 99)
   simp [iF, idx, w1, w2, w3, w4, oK, pD a ha.1 ha.2 (m + 149) (by omega) 1 1 (by omega), pD b hb.1 hb.2 (m + 149) (by omega) 1 2 (by omega), hcm]
  unfold iX kD
  rw [e]
  simp [hy]
 ·obtain ⟨m, rfl⟩ : ∃ m, n = m + 150 := ⟨n - 150, by omega⟩
  have hj : ∀ q, kG (q + 50) ⟨1, []⟩ ⟨1, []⟩ = some (⟨1, []⟩, true) := fun q => by kernel_rfl
  have e : cW (m + 150) ⟨4, 0, (⟨#[]⟩ : ByteArray), [⟨1, a, (⟨#[]⟩ : ByteArray), []⟩, ⟨1, b, (⟨#[]⟩ : ByteArray), []⟩]⟩ 1 0 = some (⟨4, [⟨1, []⟩]⟩, 3, 0) := by
   rw [cW, dI]
   simp [aX, gd, gT, Tb, w1, mZ.ref (m + 149) (by omega)]
   have h1 := hj (m + 98); have h2 := hj (m + 97); have h3 := hj (m + 96)
   simp [dY, aX, idx, w1, w2, w3, w4, oX a ha.1 ha.2 (m + 149) (by omega) 2 1 (by omega), oX b hb.1 hb.2 (m + 149) (by omega) 2 2 (by omega), h1, h2, h3]
  unfold hP iY
  rw [e]
  rfl
theorem Nm (a : Int) (ha : -1099511627776 ≤ a ∧ a ≤ 1099511627776) (b : Int) (hb : -1099511627776 ≤ b ∧ b ≤ 1099511627776) (c : Int) (hc : -1099511627776 ≤ c ∧ c ≤ 1099511627776) : Jw ⟨4, 0, (⟨#[]⟩ : ByteArray), [⟨1, a, (⟨#[]⟩ : ByteArray), []⟩, ⟨1, b, (⟨#[]⟩ : ByteArray), []⟩, ⟨1, c, (⟨#[]⟩ : ByteArray), []⟩]⟩ := by
 have w1 : IntKind.wrap .i64 (1 : Int) = 1 := by decide
 have w2 : IntKind.wrap .i64 (2 : Int) = 2 := by decide
 have w3 : IntKind.wrap .i64 (3 : Int) = 3 := by decide
 have w4 : IntKind.wrap .i64 (4 : Int) = 4 := by decide
 refine ⟨fun n hn => ?_, fun n hn => ?_, fun n hn => by obtain ⟨m, rfl⟩ : ∃ m, n = m + 20 := ⟨n - 20, by omega⟩; kernel_rfl⟩
 ·obtain ⟨m, rfl⟩ : ∃ m, n = m + 150 := ⟨n - 150, by omega⟩
  have hcm : ∀ q, lQ (q + 50) [aQ.mk 1 [], aQ.mk 1 [], aQ.mk 1 []] = some (⟨4, [⟨1, []⟩]⟩, true) := fun q => by kernel_rfl
  have hy : fT (m + 150) ⟨4, [⟨1, []⟩]⟩ = some ⟨4, [⟨1, []⟩]⟩ := by kernel_rfl
  have e : dO (m + 150) ⟨4, 0, (⟨#[]⟩ : ByteArray), [⟨1, a, (⟨#[]⟩ : ByteArray), []⟩, ⟨1, b, (⟨#[]⟩ : ByteArray), []⟩, ⟨1, c, (⟨#[]⟩ : ByteArray), []⟩]⟩ 0 0 = some (⟨4, [⟨1, []⟩]⟩, 0, 4) := by
   rw [dO, dZ]
   simp [gZ, hZ, aX, gd, gT, Tb, w1, mZ.prog (m + 149) (by omega)]
   have hcm := hcm (m + 99)
   simp [iF, idx, w1, w2, w3, w4, oK, pD a ha.1 ha.2 (m + 149) (by omega) 1 1 (by omega), pD b hb.1 hb.2 (m + 149) (by omega) 1 2 (by omega), pD c hc.1 hc.2 (m + 149) (by omega) 1 3 (by omega), hcm]
  unfold iX kD
  rw [e]
  simp [hy]
 ·obtain ⟨m, rfl⟩ : ∃ m, n = m + 150 := ⟨n - 150, by omega⟩
  have hj : ∀ q, kG (q + 50) ⟨1, []⟩ ⟨1, []⟩ = some (⟨1, []⟩, true) := fun q => by kernel_rfl
  have e : cW (m + 150) ⟨4, 0, (⟨#[]⟩ : ByteArray), [⟨1, a, (⟨#[]⟩ : ByteArray), []⟩, ⟨1, b, (⟨#[]⟩ : ByteArray), []⟩, ⟨1, c, (⟨#[]⟩ : ByteArray), []⟩]⟩ 1 0 = some (⟨4, [⟨1, []⟩]⟩, 4, 0) := by
   rw [cW, dI]
   simp [aX, gd, gT, Tb, w1, mZ.ref (m + 149) (by omega)]
   have h1 := hj (m + 98); have h2 := hj (m + 97); have h3 := hj (m + 96)
   simp [dY, aX, idx, w1, w2, w3, w4, oX a ha.1 ha.2 (m + 149) (by omega) 2 1 (by omega), oX b hb.1 hb.2 (m + 149) (by omega) 2 2 (by omega), oX c hc.1 hc.2 (m + 149) (by omega) 2 3 (by omega), h1, h2, h3]
  unfold hP iY
  rw [e]
  rfl
theorem Sp (l : List aF) (h1 : 1 ≤ l.length) (h2 : l.length ≤ 3) (h : ∀ x, x ∈ l → ∃ k : Int, (-1099511627776 ≤ k ∧ k ≤ 1099511627776) ∧ x = ⟨1, k, (⟨#[]⟩ : ByteArray), []⟩) : Jw ⟨4, 0, (⟨#[]⟩ : ByteArray), l⟩ := by
 match l, h1, h2, h with
 | [a], _, _, h =>
  obtain ⟨a, ha, rfl⟩ := h a (by simp)
  exact Od a ha
 | [a, b], _, _, h =>
  obtain ⟨a, ha, rfl⟩ := h a (by simp)
  obtain ⟨b, hb, rfl⟩ := h b (by simp)
  exact Oc a ha b hb
 | [a, b, c], _, _, h =>
  obtain ⟨a, ha, rfl⟩ := h a (by simp)
  obtain ⟨b, hb, rfl⟩ := h b (by simp)
  obtain ⟨c, hc, rfl⟩ := h c (by simp)
  exact Nm a ha b hb c hc
theorem Ll (y : Int) (h0 : 0 ≤ y) (h1 : y < 6) : mQ (Ns (⟨#[107]⟩ : ByteArray) (cQ [(IntKind.wrap .u8 (IntKind.wrap .i64 (97 + y)))])) Ta := by
 have : y = 0 ∨ y = 1 ∨ y = 2 ∨ y = 3 ∨ y = 4 ∨ y = 5 := by omega
 rcases this with rfl | rfl | rfl | rfl | rfl | rfl
 ·exact ⟨⟨#[107, 97]⟩, by kernel_rfl, jZ (by decide) (by kernel_rfl)⟩
 ·exact ⟨⟨#[107, 98]⟩, by kernel_rfl, jZ (by decide) (by kernel_rfl)⟩
 ·exact ⟨⟨#[107, 99]⟩, by kernel_rfl, jZ (by decide) (by kernel_rfl)⟩
 ·exact ⟨⟨#[107, 100]⟩, by kernel_rfl, jZ (by decide) (by kernel_rfl)⟩
 ·exact ⟨⟨#[107, 101]⟩, by kernel_rfl, jZ (by decide) (by kernel_rfl)⟩
 ·exact ⟨⟨#[107, 102]⟩, by kernel_rfl, jZ (by decide) (by kernel_rfl)⟩
theorem Xf (y : Int) (h0 : 0 ≤ y) (h1 : y < 6) : KOk (cQ [107, (IntKind.wrap .u8 (IntKind.wrap .i64 (97 + y)))]) := by
 have : y = 0 ∨ y = 1 ∨ y = 2 ∨ y = 3 ∨ y = 4 ∨ y = 5 := by omega
 refine ⟨fun n hn => ?_, fun n hn => ?_⟩
 ·obtain ⟨m, rfl⟩ : ∃ m, n = m + 60 := ⟨n - 60, by omega⟩
  rcases this with rfl | rfl | rfl | rfl | rfl | rfl <;> kernel_rfl
 ·obtain ⟨m, rfl⟩ : ∃ m, n = m + 60 := ⟨n - 60, by omega⟩
  rcases this with rfl | rfl | rfl | rfl | rfl | rfl <;> kernel_rfl
theorem Na : KOk (⟨#[]⟩ : ByteArray) := by
 refine ⟨fun n hn => ?_, fun n hn => ?_⟩
 ·obtain ⟨m, rfl⟩ : ∃ m, n = m + 60 := ⟨n - 60, by omega⟩
  kernel_rfl
 ·obtain ⟨m, rfl⟩ : ∃ m, n = m + 60 := ⟨n - 60, by omega⟩
  kernel_rfl
theorem Ow (n : Nat) {p : aS} (h : bZ p) : mQ (sR n p) fun y => Ta y.1 ∧ bZ y.2 := by
 unfold sR
 refine aO (dT n h (by decide)) fun y ⟨a, b, c⟩ => ?_
 have b := b (by decide)
 refine aO (pO a b) fun e he => cF ⟨?_, c⟩
 show Ta e
 simp only [List.mem_cons, List.not_mem_nil, or_false] at he
 rcases he with rfl | rfl | rfl | rfl | rfl | rfl | rfl | rfl
 ·exact jZ (by decide) (by kernel_rfl)
 ·exact jZ (by decide) (by kernel_rfl)
 ·exact jZ (by decide) (by kernel_rfl)
 ·exact jZ (by decide) (by kernel_rfl)
 ·exact jZ (by decide) (by kernel_rfl)
 ·exact jZ (by decide) (by kernel_rfl)
 ·exact jZ (by decide) (by kernel_rfl)
 ·exact jZ (by decide) (by kernel_rfl)
theorem Ue (n : Nat) {p : aS} (h : bZ p) : mQ (xM n p) fun y => bZ y.2 := by
 have h0 := h.lo
 have h1 := h.hi
 have h2 := h.len
 have w1 : IntKind.wrap .i64 (p.At + 1) = p.At + 1 := Go.Bm.bB (by omega) (by omega)
 have w2 : IntKind.wrap .i64 (p.At + 1 - 1) = p.At := by rw [show p.At + 1 - 1 = p.At by omega]; exact Go.Bm.bB (by omega) (by omega)
 unfold xM
 refine bV (fun _ => cF h) fun hc => ?_
 simp only [decide_eq_false_iff_not] at hc
 rw [w1, w2]
 exact aO (pO h0 (by omega)) fun e _ => cF ⟨by show 0 ≤ p.At + 1; omega, by show p.At + 1 ≤ (p.L.length : Int); omega, h2⟩
theorem Lg (n : Nat) {p : aS} (k : Int) (h : bZ p) (hk : k ≤ 1000000) : mQ (oT n p k) fun y => bZ y.2 := by
 unfold oT
 exact aO (dT n h (by omega)) fun y ⟨_, _, c⟩ => cF c
theorem Ig (n : Nat) {p : aS} (h : bZ p) : mQ (rD n p) fun y => bZ y.2 := by
 unfold rD mY
 refine aO (P := fun l => l.length = 89) ⟨_, rfl, rfl⟩ fun l hl => ?_
 refine aO (Lg n 40 h (by decide)) fun y c => bV (fun _ => aO (Ue n c) fun z cz => cF cz) fun _ => ?_
 rw [hl]
 refine aO (dT n c (by decide)) fun y ⟨a, b, c⟩ => ?_
 have b := b (by decide)
 exact aO (pO a (by rw [hl]; exact b)) fun e _ => cF c
theorem Mn (j : List Int → List Int → Int → Option ((List Int) × aS)) (y1 y2 : Int × aS) {Q : (List Int) × aS → Prop} (hj : ∀ l L A, bZ ⟨L, A⟩ → l.length = 5 → mQ (j l L A) Q) : ∀ (k n : Nat) (q : Int) (l L : List Int) (A : Int), q + k = 5 → 0 ≤ q → k < n → bZ ⟨L, A⟩ → l.length + k = 5 → mQ (kL j y1 y2 n l q L A) Q
 | k, 0, q, l, L, A, _, _, h, _, _ => by omega
 | 0, n + 1, q, l, L, A, h1, h0, h2, h, h3 => by
  rw [kL]
  exact bV (fun hc => by simp only [decide_eq_true_eq] at hc; omega) fun _ => hj l L A h (by omega)
 | k + 1, n + 1, q, l, L, A, h1, h0, h2, h, h3 => by
  have hw : IntKind.wrap .i64 (q + 1) = q + 1 := Go.Bm.bB (by omega) (by omega)
  rw [kL, hw]
  refine bV (fun _ => ?_) fun hc => by simp only [decide_eq_false_iff_not] at hc; omega
  refine aO (Ig n h) fun y c => aO (eU (by simp; omega) (by decide)) fun r hr => ?_
  subst hr
  exact Mn j y1 y2 hj k n (q + 1) _ _ _ (by omega) (by omega) (by omega) c (by simp; omega)
theorem Mq (y1 y2 : Int × aS) (some_ : List Int) (hs : some_.length = 5) (hy : y1.1 ≤ 8) (j : List Int → List Int → Int → Option ((List Int) × aS)) {Q : (List Int) × aS → Prop} (hj : ∀ l L A, bZ ⟨L, A⟩ → l.length ≤ 8 → mQ (j l L A) Q) : ∀ (k n : Nat) (q : Int) (l L : List Int) (A : Int), q + k = 8 → 0 ≤ q → k < n → bZ ⟨L, A⟩ → l.length + k ≤ 8 → mQ (kJ y1 y2 some_ j n l q L A) Q
 | k, 0, q, l, L, A, _, _, h, _, _ => by omega
 | 0, n + 1, q, l, L, A, h1, h0, h2, h, h3 => by
  rw [kJ]
  exact bV (fun hc => by simp only [decide_eq_true_eq] at hc; omega) fun _ => hj l L A h (by omega)
 | k + 1, n + 1, q, l, L, A, h1, h0, h2, h, h3 => by
  have hw : IntKind.wrap .i64 (q + 1) = q + 1 := Go.Bm.bB (by omega) (by omega)
  rw [kJ, hw]
  refine bV (fun _ => ?_) fun _ => hj l L A h (by omega)
  refine cC (fun l L A => bZ ⟨L, A⟩ ∧ l.length + k ≤ 8) (fun l L A ⟨a, b⟩ => Mq y1 y2 some_ hs hy j hj k n (q + 1) l L A (by omega) (by omega) (by omega) a b) fun j2 k2 => ?_
  refine bV (fun _ => ?_) fun _ => ?_
  ·refine aO (dT n h (by decide)) fun y ⟨a, b, c⟩ => aO (pO a (by rw [hs]; exact b (by decide))) fun e _ => aO (eU (by simp; omega) (by decide)) fun r hr => ?_
   subst hr
   exact k2 _ _ _ ⟨c, by simp; omega⟩
  ·refine aO (Ig n h) fun y c => aO (eU (by simp; omega) (by decide)) fun r hr => ?_
   subst hr
   exact k2 _ _ _ ⟨c, by simp; omega⟩
theorem Qr (n : Nat) (hn : 20 ≤ n) {p : aS} (h : bZ p) : mQ (tK n p 8) fun y => y.1.length ≤ 8 ∧ bZ y.2 := by
 unfold tK
 refine aO (dT n h (by decide)) fun y1 ⟨_, b1, c1⟩ => aO (dT n c1 (by decide)) fun y2 ⟨_, _, c2⟩ => ?_
 have b1 := b1 (by decide)
 have e9 : IntKind.wrap .i64 (8 + 1) = 9 := by decide
 rw [e9] at b1
 refine cC (fun l L A => bZ ⟨L, A⟩ ∧ l.length = 5) (fun l L A ⟨a, b⟩ => ?_) fun j k => Mn j y1 y2 (fun l L A a b => k l L A ⟨a, b⟩) 5 n 0 [] _ _ (by omega) (by omega) (by omega) c2 rfl
 exact cC (fun l L A => bZ ⟨L, A⟩ ∧ l.length ≤ 8) (fun l L A ⟨a, b⟩ => cF ⟨b, a⟩) fun j k => Mq y1 y2 l b (by omega) j (fun l L A a b => k l L A ⟨a, b⟩) 8 n 0 [] _ _ (by omega) (by omega) (by omega) a (by simp)
theorem Nt (n : Nat) {p : aS} (l : List Int) (hl : l.length ≤ 8) (h : bZ p) : mQ (qZ n p l) fun y => Ta (runesBytes y.1) ∧ bZ y.2 := by
 unfold qZ yS
 have hs := runesBytes_size_le l
 rw [if_pos (by omega)]
 refine aO (P := fun r => r = oP (runesBytes l)) (cF rfl) fun r hr => cF ⟨?_, h⟩
 subst hr
 show Ta (runesBytes (oP (runesBytes l)))
 rw [Dc _ (yZ l)]
 exact jZ (by omega) (yZ l)
theorem Py (n : Nat) {p : aS} {k : Int} {b : Bool} (hk : k ≤ 1000000) (h : bZ p) : mQ (Tc [b] (cP n p k) ((default : Int), p)) fun y => bZ y.2 := by
 unfold Tc
 split
 ·exact Ru (dT n h (by omega)) fun y hy => hy.2.2
 ·exact cF h
def Pn : List ByteArray := [(⟨#[97, 98, 111, 118, 101]⟩ : ByteArray), (⟨#[97, 108, 105, 103, 110, 108, 101, 102, 116]⟩ : ByteArray), (⟨#[99, 104, 101, 99, 107, 101, 100]⟩ : ByteArray), (⟨#[99, 108, 97, 115, 115]⟩ : ByteArray), (⟨#[99, 111, 108, 117, 109, 110, 115]⟩ : ByteArray), (⟨#[100, 105, 115, 97, 98, 108, 101, 100]⟩ : ByteArray), (⟨#[104, 101, 105, 103, 104, 116]⟩ : ByteArray), (⟨#[104, 105, 100, 100, 101, 110]⟩ : ByteArray), (⟨#[108, 101, 102, 116]⟩ : ByteArray), (⟨#[112, 105, 110, 110, 101, 100]⟩ : ByteArray), (⟨#[115, 99, 97, 108, 101]⟩ : ByteArray), (⟨#[115, 112, 97, 110]⟩ : ByteArray), (⟨#[116, 101, 120, 116]⟩ : ByteArray), (⟨#[116, 117, 114, 110]⟩ : ByteArray), (⟨#[119, 105, 100, 116, 104]⟩ : ByteArray)]
theorem Wi (i : Nat) (h : i < 15) : NOk (Pn.getD i default) := by
 rcases i with _ | _ | _ | _ | _ | _ | _ | _ | _ | _ | _ | _ | _ | _ | _ | i
 iterate 15 exact Kj (by kernel_rfl)
 omega
theorem Wd : ∀ i, i < 15 → ∀ q, q < i → Ip (Pn.getD q default) (Pn.getD i default) = true ∧ Jt (Pn.getD i default) (Pn.getD q default) = false := by
 have h : ((List.range 15).all fun i => (List.range i).all fun q => Ip (Pn.getD q default) (Pn.getD i default) && !(Jt (Pn.getD i default) (Pn.getD q default))) = true := by kernel_rfl
 intro i hi q hq
 have h1 := List.all_eq_true.1 (List.all_eq_true.1 h i (by simpa using hi)) q (by simpa using hq)
 simpa using h1
structure AL (i : Nat) (l : List aY) : Prop where
 len : l.length ≤ i
 ok : ∀ a, a ∈ l → Yh a
 idx : ∃ js : List Nat, js.Pairwise (· < ·) ∧ (∀ q, q ∈ js → q < i) ∧ l.map aY.Name = js.map fun q => Pn.getD q default
theorem AL.weak {i : Nat} {l : List aY} (h : AL i l) : AL (i + 1) l := ⟨by have := h.len; omega, h.ok, let ⟨js, a, b, c⟩ := h.idx; ⟨js, a, fun q hq => by have := b q hq; omega, c⟩⟩
theorem AL.app {i : Nat} {l : List aY} (h : AL i l) (hi : i < 15) (nm : ByteArray) (hn : nm = Pn.getD i default) (x : aF) (hx : Jw x) : AL (i + 1) (l ++ [⟨nm, x⟩]) := by
 obtain ⟨js, a, b, c⟩ := h.idx
 refine ⟨by have := h.len; simp; omega, fun y hy => ?_, js ++ [i], ?_, fun q hq => ?_, ?_⟩
 ·rcases List.mem_append.1 hy with hy | hy
  ·exact h.ok y hy
  ·simp only [List.mem_singleton] at hy
   subst hy hn
   exact ⟨Wi i hi, hx⟩
 ·rw [List.pairwise_append]
  exact ⟨a, by simp, fun q hq r hr => by simp only [List.mem_singleton] at hr; subst hr; exact b q hq⟩
 ·rcases List.mem_append.1 hq with hq | hq
  ·have := b q hq; omega
  ·simp only [List.mem_singleton] at hq; omega
 ·rw [List.map_append, List.map_append, c, hn]; rfl
theorem AL.sort {l : List aY} (h : AL 15 l) (i : Nat) (a b : aY) (ha : l[i]? = some a) (hb : l[i + 1]? = some b) : Ip a.Name b.Name = true ∧ Jt b.Name a.Name = false := by
 obtain ⟨js, p, q, r⟩ := h.idx
 have h1 := congrArg (fun z => z[i]?) r
 have h2 := congrArg (fun z => z[i + 1]?) r
 simp only [List.getElem?_map, ha, hb, Option.map_some] at h1 h2
 have hlen : js.length = l.length := by have := congrArg List.length r; simpa using this.symm
 have hil := (List.getElem?_eq_some_iff.1 hb).1
 rw [List.getElem?_eq_getElem (by omega)] at h1 h2
 simp only [Option.map_some, Option.some.injEq] at h1 h2
 rw [h1, h2]
 exact Wd _ (q _ (List.getElem_mem _)) _ (List.pairwise_iff_getElem.1 p i (i + 1) (by omega) (by omega) (by omega))
theorem Fh (j : List Int → Int → List aF → Option ((List aY) × aS)) (p1 : Int) (v32 : List aY) {Q : (List aY) × aS → Prop} (hj : ∀ L A l, bZ ⟨L, A⟩ → Jw ⟨4, 0, (⟨#[]⟩ : ByteArray), l⟩ → mQ (j L A l) Q) : ∀ (k n : Nat) (q : Int) (L : List Int) (A : Int) (l : List aF), q = k → k < n → bZ ⟨L, A⟩ → 1 ≤ k + l.length → k + l.length ≤ 3 → (∀ x, x ∈ l → ∃ k : Int, (-1099511627776 ≤ k ∧ k ≤ 1099511627776) ∧ x = ⟨1, k, (⟨#[]⟩ : ByteArray), []⟩) → mQ (jC j p1 v32 n q L A l) Q
 | k, 0, q, L, A, l, _, h, _, _, _, _ => by omega
 | 0, n + 1, q, L, A, l, hq, hn, h, h1, h2, hl => by
  rw [jC]
  exact bV (fun hc => by simp only [decide_eq_true_eq] at hc; omega) fun _ => hj L A l h (Sp l (by omega) (by omega) hl)
 | k + 1, n + 1, q, L, A, l, hq, hn, h, h1, h2, hl => by
  have hw : IntKind.wrap .i64 (q - 1) = q - 1 := Go.Bm.bB (by omega) (by omega)
  rw [jC, hw]
  refine bV (fun _ => ?_) fun hc => by simp only [decide_eq_false_iff_not] at hc; omega
  refine aO (dT n h (by decide)) fun y ⟨a, b, c⟩ => aO (pO a (b (by decide))) fun e he => ?_
  refine aO (P := fun y => y = aF.mk 1 e (⟨#[]⟩ : ByteArray) []) ⟨_, rfl, rfl⟩ fun x hx => aO (eU (by simp; omega) (by decide)) fun r hr => ?_
  subst hr hx
  refine Fh j p1 v32 hj k n (q - 1) _ _ _ (by omega) (by omega) c (by simp; omega) (by simp; omega) fun x hx => ?_
  rcases List.mem_append.1 hx with hx | hx
  ·exact hl x hx
  ·simp only [List.mem_singleton] at hx
   simp only [List.mem_cons, List.not_mem_nil, or_false] at he
   exact ⟨e, by omega, hx⟩
theorem Ot (n : Nat) (hn : 60 ≤ n) {p : aS} (kind : Int) (h : bZ p) : mQ (qI n p kind) fun y => AL 15 y.1 ∧ bZ y.2 := by
 unfold qI
 refine cC (fun l L A => bZ ⟨L, A⟩ ∧ AL 1 l) (fun l1 L1 A1 ⟨s1, a1⟩ => ?_) fun j k => ?_
 rotate_left
 ·exact aO (dT n h (by decide)) fun y ⟨_, _, c⟩ => bV (fun _ => aO (dT n c (by decide)) fun z ⟨za, zb, zc⟩ => aO (Ll z.1 za (zb (by decide))) fun t ht => aO (P := fun y => y = aF.mk 3 0 t []) ⟨_, rfl, rfl⟩ fun x hx => by subst hx; exact aO (eU (by have := AL.len (⟨by simp, fun a ha => (nomatch ha), [], .nil, fun q hq => (nomatch hq), rfl⟩ : AL 0 []); simp at this ⊢ <;> omega) (by decide)) fun r hr => by subst hr; exact k _ _ _ ⟨zc, AL.app (⟨by simp, fun a ha => (nomatch ha), [], .nil, fun q hq => (nomatch hq), rfl⟩ : AL 0 []) (by decide) _ (by kernel_rfl) _ (qO t ht)⟩) fun _ => k _ _ _ ⟨c, AL.weak (⟨by simp, fun a ha => (nomatch ha), [], .nil, fun q hq => (nomatch hq), rfl⟩ : AL 0 [])⟩
 refine cC (fun l L A => bZ ⟨L, A⟩ ∧ AL 2 l) (fun l2 L2 A2 ⟨s2, a2⟩ => ?_) fun j k => ?_
 rotate_left
 ·exact aO (dT n s1 (by decide)) fun y ⟨_, _, c⟩ => bV (fun _ => aO (dT n c (by decide)) fun z ⟨za, zb, zc⟩ => aO (Ll z.1 za (zb (by decide))) fun t ht => aO (P := fun y => y = aF.mk 3 0 t []) ⟨_, rfl, rfl⟩ fun x hx => by subst hx; exact aO (eU (by have := AL.len a1; simp at this ⊢ <;> omega) (by decide)) fun r hr => by subst hr; exact k _ _ _ ⟨zc, AL.app a1 (by decide) _ (by kernel_rfl) _ (qO t ht)⟩) fun _ => k _ _ _ ⟨c, AL.weak a1⟩
 refine cC (fun l L A => bZ ⟨L, A⟩ ∧ AL 3 l) (fun l3 L3 A3 ⟨s3, a3⟩ => ?_) fun j k => ?_
 rotate_left
 ·exact aO (dT n s2 (by decide)) fun y ⟨_, _, c⟩ => bV (fun _ => aO (dT n c (by decide)) fun z ⟨za, zb, zc⟩ => aO (P := fun y => y = aF.mk 2 z.1 (⟨#[]⟩ : ByteArray) []) ⟨_, rfl, rfl⟩ fun x hx => by subst hx; exact aO (eU (by have := AL.len a2; simp at this ⊢ <;> omega) (by decide)) fun r hr => by subst hr; exact k _ _ _ ⟨zc, AL.app a2 (by decide) _ (by kernel_rfl) _ (tY z.1 (by have := zb (by decide); omega))⟩) fun _ => k _ _ _ ⟨c, AL.weak a2⟩
 refine cC (fun l L A => bZ ⟨L, A⟩ ∧ AL 4 l) (fun l4 L4 A4 ⟨s4, a4⟩ => ?_) fun j k => ?_
 rotate_left
 ·exact aO (dT n s3 (by decide)) fun y ⟨_, _, c⟩ => bV (fun _ => aO (Ow n c) fun z ⟨zt, zc⟩ => aO (P := fun y => y = aF.mk 3 0 z.1 []) ⟨_, rfl, rfl⟩ fun x hx => by subst hx; exact aO (eU (by have := AL.len a3; simp at this ⊢ <;> omega) (by decide)) fun r hr => by subst hr; exact k _ _ _ ⟨zc, AL.app a3 (by decide) _ (by kernel_rfl) _ (qO z.1 zt)⟩) fun _ => k _ _ _ ⟨c, AL.weak a3⟩
 refine cC (fun l L A => bZ ⟨L, A⟩ ∧ AL 5 l) (fun l5 L5 A5 ⟨s5, a5⟩ => ?_) fun j k => ?_
 rotate_left
 ·exact aO (dT n s4 (by decide)) fun y ⟨_, _, c⟩ => bV (fun _ => cC (fun L A l => bZ ⟨L, A⟩ ∧ Jw ⟨4, 0, (⟨#[]⟩ : ByteArray), l⟩) (fun L A l ⟨lc, lo⟩ => aO (eU (by have := AL.len a4; simp at this ⊢ <;> omega) (by decide)) fun r hr => by subst hr; exact k _ _ _ ⟨lc, AL.app a4 (by decide) _ (by kernel_rfl) _ lo⟩) fun j2 k2 => aO (En n c (by decide) (by decide) (by decide)) fun z ⟨za, zb, zc⟩ => Fh j2 _ _ (fun L A l a b => k2 L A l ⟨a, b⟩) z.1.toNat n z.1 _ _ [] (by omega) (by omega) zc (by simp <;> omega) (by simp <;> omega) (fun x hx => nomatch hx)) fun _ => k _ _ _ ⟨c, AL.weak a4⟩
 refine cC (fun l L A => bZ ⟨L, A⟩ ∧ AL 6 l) (fun l6 L6 A6 ⟨s6, a6⟩ => ?_) fun j k => ?_
 rotate_left
 ·exact aO (dT n s5 (by decide)) fun y ⟨_, _, c⟩ => bV (fun _ => aO (dT n c (by decide)) fun z ⟨za, zb, zc⟩ => aO (P := fun y => y = aF.mk 2 z.1 (⟨#[]⟩ : ByteArray) []) ⟨_, rfl, rfl⟩ fun x hx => by subst hx; exact aO (eU (by have := AL.len a5; simp at this ⊢ <;> omega) (by decide)) fun r hr => by subst hr; exact k _ _ _ ⟨zc, AL.app a5 (by decide) _ (by kernel_rfl) _ (tY z.1 (by have := zb (by decide); omega))⟩) fun _ => k _ _ _ ⟨c, AL.weak a5⟩
 refine cC (fun l L A => bZ ⟨L, A⟩ ∧ AL 7 l) (fun l7 L7 A7 ⟨s7, a7⟩ => ?_) fun j k => ?_
 rotate_left
 ·exact aO (Py n (by decide) s6) fun y c => bV (fun _ => aO (dT n c (by decide)) fun z ⟨za, zb, zc⟩ => aO (P := fun y => y = aF.mk 1 z.1 (⟨#[]⟩ : ByteArray) []) ⟨_, rfl, rfl⟩ fun x hx => by subst hx; exact aO (eU (by have := AL.len a6; simp at this ⊢ <;> omega) (by decide)) fun r hr => by subst hr; exact k _ _ _ ⟨zc, AL.app a6 (by decide) _ (by kernel_rfl) _ (uQ z.1 (by omega) (by have := zb (by decide); omega))⟩) fun _ => k _ _ _ ⟨c, AL.weak a6⟩
 refine cC (fun l L A => bZ ⟨L, A⟩ ∧ AL 8 l) (fun l8 L8 A8 ⟨s8, a8⟩ => ?_) fun j k => ?_
 rotate_left
 ·exact aO (dT n s7 (by decide)) fun y ⟨_, _, c⟩ => bV (fun _ => aO (dT n c (by decide)) fun z ⟨za, zb, zc⟩ => aO (P := fun y => y = aF.mk 2 z.1 (⟨#[]⟩ : ByteArray) []) ⟨_, rfl, rfl⟩ fun x hx => by subst hx; exact aO (eU (by have := AL.len a7; simp at this ⊢ <;> omega) (by decide)) fun r hr => by subst hr; exact k _ _ _ ⟨zc, AL.app a7 (by decide) _ (by kernel_rfl) _ (tY z.1 (by have := zb (by decide); omega))⟩) fun _ => k _ _ _ ⟨c, AL.weak a7⟩
 refine cC (fun l L A => bZ ⟨L, A⟩ ∧ AL 9 l) (fun l9 L9 A9 ⟨s9, a9⟩ => ?_) fun j k => ?_
 rotate_left
 ·exact aO (dT n s8 (by decide)) fun y ⟨_, _, c⟩ => bV (fun _ => aO (dT n c (by decide)) fun z ⟨za, zb, zc⟩ => aO (Ll z.1 za (zb (by decide))) fun t ht => aO (P := fun y => y = aF.mk 3 0 t []) ⟨_, rfl, rfl⟩ fun x hx => by subst hx; exact aO (eU (by have := AL.len a8; simp at this ⊢ <;> omega) (by decide)) fun r hr => by subst hr; exact k _ _ _ ⟨zc, AL.app a8 (by decide) _ (by kernel_rfl) _ (qO t ht)⟩) fun _ => k _ _ _ ⟨c, AL.weak a8⟩
 refine cC (fun l L A => bZ ⟨L, A⟩ ∧ AL 10 l) (fun l10 L10 A10 ⟨s10, a10⟩ => ?_) fun j k => ?_
 rotate_left
 ·exact aO (dT n s9 (by decide)) fun y ⟨_, _, c⟩ => bV (fun _ => aO (P := fun y => y = aF.mk 2 1 (⟨#[]⟩ : ByteArray) []) ⟨_, rfl, rfl⟩ fun x hx => by subst hx; exact aO (eU (by have := AL.len a9; simp at this ⊢ <;> omega) (by decide)) fun r hr => by subst hr; exact k _ _ _ ⟨c, AL.app a9 (by decide) _ (by kernel_rfl) _ (tY 1 (.inr rfl))⟩) fun _ => k _ _ _ ⟨c, AL.weak a9⟩
 refine cC (fun l L A => bZ ⟨L, A⟩ ∧ AL 11 l) (fun l11 L11 A11 ⟨s11, a11⟩ => ?_) fun j k => ?_
 rotate_left
 ·exact aO (dT n s10 (by decide)) fun y ⟨_, _, c⟩ => bV (fun _ => aO (dT n c (by decide)) fun z ⟨za, zb, zc⟩ => aO (P := fun y => y = aF.mk 1 z.1 (⟨#[]⟩ : ByteArray) []) ⟨_, rfl, rfl⟩ fun x hx => by subst hx; exact aO (eU (by have := AL.len a10; simp at this ⊢ <;> omega) (by decide)) fun r hr => by subst hr; exact k _ _ _ ⟨zc, AL.app a10 (by decide) _ (by kernel_rfl) _ (uQ z.1 (by omega) (by have := zb (by decide); omega))⟩) fun _ => k _ _ _ ⟨c, AL.weak a10⟩
 refine cC (fun l L A => bZ ⟨L, A⟩ ∧ AL 12 l) (fun l12 L12 A12 ⟨s12, a12⟩ => ?_) fun j k => ?_
 rotate_left
 ·exact aO (dT n s11 (by decide)) fun y ⟨_, _, c⟩ => bV (fun _ => aO (dT n c (by decide)) fun z ⟨za, zb, zc⟩ => aO (P := fun y => y = aF.mk 1 z.1 (⟨#[]⟩ : ByteArray) []) ⟨_, rfl, rfl⟩ fun x hx => by subst hx; exact aO (eU (by have := AL.len a11; simp at this ⊢ <;> omega) (by decide)) fun r hr => by subst hr; exact k _ _ _ ⟨zc, AL.app a11 (by decide) _ (by kernel_rfl) _ (uQ z.1 (by omega) (by have := zb (by decide); omega))⟩) fun _ => k _ _ _ ⟨c, AL.weak a11⟩
 refine cC (fun l L A => bZ ⟨L, A⟩ ∧ AL 13 l) (fun l13 L13 A13 ⟨s13, a13⟩ => ?_) fun j k => ?_
 rotate_left
 ·exact aO (dT n s12 (by decide)) fun y ⟨_, _, c⟩ => bV (fun _ => aO (Qr n (by omega) c) fun z ⟨zl, zc⟩ => aO (Nt n z.1 zl zc) fun w ⟨wt, wc⟩ => aO (P := fun y => y = aF.mk 3 0 (runesBytes w.1) []) ⟨_, rfl, rfl⟩ fun x hx => by subst hx; exact aO (eU (by have := AL.len a12; simp at this ⊢ <;> omega) (by decide)) fun r hr => by subst hr; exact k _ _ _ ⟨wc, AL.app a12 (by decide) _ (by kernel_rfl) _ (qO _ wt)⟩) fun _ => k _ _ _ ⟨c, AL.weak a12⟩
 refine cC (fun l L A => bZ ⟨L, A⟩ ∧ AL 14 l) (fun l14 L14 A14 ⟨s14, a14⟩ => ?_) fun j k => ?_
 rotate_left
 ·exact aO (dT n s13 (by decide)) fun y ⟨_, _, c⟩ => bV (fun _ => aO (dT n c (by decide)) fun z ⟨za, zb, zc⟩ => aO (P := fun y => y = aF.mk 1 z.1 (⟨#[]⟩ : ByteArray) []) ⟨_, rfl, rfl⟩ fun x hx => by subst hx; exact aO (eU (by have := AL.len a13; simp at this ⊢ <;> omega) (by decide)) fun r hr => by subst hr; exact k _ _ _ ⟨zc, AL.app a13 (by decide) _ (by kernel_rfl) _ (uQ z.1 (by omega) (by have := zb (by decide); omega))⟩) fun _ => k _ _ _ ⟨c, AL.weak a13⟩
 refine cC (fun l L A => bZ ⟨L, A⟩ ∧ AL 15 l) (fun l L A ⟨a, b⟩ => cF ⟨b, a⟩) fun j k => ?_
 exact aO (Py n (by decide) s14) fun y c => bV (fun _ => aO (dT n c (by decide)) fun z ⟨za, zb, zc⟩ => aO (P := fun y => y = aF.mk 1 z.1 (⟨#[]⟩ : ByteArray) []) ⟨_, rfl, rfl⟩ fun x hx => by subst hx; exact aO (eU (by have := AL.len a14; simp at this ⊢ <;> omega) (by decide)) fun r hr => by subst hr; exact k _ _ _ ⟨zc, AL.app a14 (by decide) _ (by kernel_rfl) _ (uQ z.1 (by omega) (by have := zb (by decide); omega))⟩) fun _ => k _ _ _ ⟨c, AL.weak a14⟩
end Go.Proofs.YtojkihhnioeggaaGreatDoor.S
