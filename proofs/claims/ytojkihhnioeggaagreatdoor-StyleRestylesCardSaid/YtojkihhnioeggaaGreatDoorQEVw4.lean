import Derived.Test.YtojkihhnioeggaaGreatDoorQEVw3
import Derived.WalkLawsBesides
import Derived.Deep.QuietTactic
import Derived.BigQuiet
import Derived.BigRegion
import Derived.Lib.Hide
import Derived.Deep.RegionWith
set_option linter.unusedSimpArgs false
set_option linter.all false
set_option linter.unusedVariables false
namespace Go.Proofs.YtojkihhnioeggaaGreatDoor.S
open Go Go.Bm
theorem Xt (a : Int) (ha : -1099511627776 ≤ a ∧ a ≤ 1099511627776) : Rv ⟨4, 0, nB, [⟨1, a, nB, []⟩]⟩ := by
 have w1 : w6 (1 : Int) = 1 := by decide
 have w2 : w6 (2 : Int) = 2 := by decide
 have w3 : w6 (3 : Int) = 3 := by decide
 have w4 : w6 (4 : Int) = 4 := by decide
 refine ⟨fun n hn => ?_, fun n hn => ?_, fun n hn => by obtain ⟨m, rfl⟩ : ∃ m, n = m + 20 := ⟨n - 20, by omega⟩; kernel_rfl⟩
 ·obtain ⟨m, rfl⟩ : ∃ m, n = m + 150 := ⟨n - 150, by omega⟩
  have hcm : ∀ q, oQ (q + 50) [bD.mk 1 []] = some (⟨4, [⟨1, []⟩]⟩, true) := fun q => by kernel_rfl
  have hy : hY (m + 150) ⟨4, [⟨1, []⟩]⟩ = some ⟨4, [⟨1, []⟩]⟩ := by kernel_rfl
  have e : eP (m + 150) ⟨4, 0, nB, [⟨1, a, nB, []⟩]⟩ 0 0 = some (⟨4, [⟨1, []⟩]⟩, 0, 2) := by
   rw [eP, fD]
   simp [jV, jR, aS, gd, fR, sz0, w1, qM.prog (m + 149) (by omega)]
   have hcm := hcm (m + 99)
   simp [kJ, idx, w1, w2, w3, w4, pA, sP a ha.1 ha.2 (m + 149) (by omega) 1 1 (by omega), hcm]
  unfold lF mP
  rw [e]
  simp [hy]
 ·obtain ⟨m, rfl⟩ : ∃ m, n = m + 150 := ⟨n - 150, by omega⟩
  have hj : ∀ q, mK (q + 50) ⟨1, []⟩ ⟨1, []⟩ = some (⟨1, []⟩, true) := fun q => by kernel_rfl
  have e : dT (m + 150) ⟨4, 0, nB, [⟨1, a, nB, []⟩]⟩ 1 0 = some (⟨4, [⟨1, []⟩]⟩, 2, 0) := by
   rw [dT, eH]
   simp [aS, gd, fR, sz0, w1, qM.ref (m + 149) (by omega)]
   have h1 := hj (m + 98); have h2 := hj (m + 97); have h3 := hj (m + 96)
   simp [fA, aS, idx, w1, w2, w3, w4, sG a ha.1 ha.2 (m + 149) (by omega) 2 1 (by omega), h1, h2, h3]
  unfold jU lP
  rw [e]
  rfl
theorem Xf (a : Int) (ha : -1099511627776 ≤ a ∧ a ≤ 1099511627776) (b : Int) (hb : -1099511627776 ≤ b ∧ b ≤ 1099511627776) : Rv ⟨4, 0, nB, [⟨1, a, nB, []⟩, ⟨1, b, nB, []⟩]⟩ := by
 have w1 : w6 (1 : Int) = 1 := by decide
 have w2 : w6 (2 : Int) = 2 := by decide
 have w3 : w6 (3 : Int) = 3 := by decide
 have w4 : w6 (4 : Int) = 4 := by decide
 refine ⟨fun n hn => ?_, fun n hn => ?_, fun n hn => by obtain ⟨m, rfl⟩ : ∃ m, n = m + 20 := ⟨n - 20, by omega⟩; kernel_rfl⟩
 ·obtain ⟨m, rfl⟩ : ∃ m, n = m + 150 := ⟨n - 150, by omega⟩
  have hcm : ∀ q, oQ (q + 50) [bD.mk 1 [], bD.mk 1 []] = some (⟨4, [⟨1, []⟩]⟩, true) := fun q => by kernel_rfl
  have hy : hY (m + 150) ⟨4, [⟨1, []⟩]⟩ = some ⟨4, [⟨1, []⟩]⟩ := by kernel_rfl
  have e : eP (m + 150) ⟨4, 0, nB, [⟨1, a, nB, []⟩, ⟨1, b, nB, []⟩]⟩ 0 0 = some (⟨4, [⟨1, []⟩]⟩, 0, 3) := by
   rw [eP, fD]
   simp [jV, jR, aS, gd, fR, sz0, w1, qM.prog (m + 149) (by omega)]
   have hcm := hcm (m + 99)
   simp [kJ, idx, w1, w2, w3, w4, pA, sP a ha.1 ha.2 (m + 149) (by omega) 1 1 (by omega), sP b hb.1 hb.2 (m + 149) (by omega) 1 2 (by omega), hcm]
  unfold lF mP
  rw [e]
  simp [hy]
 ·obtain ⟨m, rfl⟩ : ∃ m, n = m + 150 := ⟨n - 150, by omega⟩
  have hj : ∀ q, mK (q + 50) ⟨1, []⟩ ⟨1, []⟩ = some (⟨1, []⟩, true) := fun q => by kernel_rfl
  have e : dT (m + 150) ⟨4, 0, nB, [⟨1, a, nB, []⟩, ⟨1, b, nB, []⟩]⟩ 1 0 = some (⟨4, [⟨1, []⟩]⟩, 3, 0) := by
   rw [dT, eH]
   simp [aS, gd, fR, sz0, w1, qM.ref (m + 149) (by omega)]
   have h1 := hj (m + 98); have h2 := hj (m + 97); have h3 := hj (m + 96)
   simp [fA, aS, idx, w1, w2, w3, w4, sG a ha.1 ha.2 (m + 149) (by omega) 2 1 (by omega), sG b hb.1 hb.2 (m + 149) (by omega) 2 2 (by omega), h1, h2, h3]
  unfold jU lP
  rw [e]
  rfl
theorem Xr (a : Int) (ha : -1099511627776 ≤ a ∧ a ≤ 1099511627776) (b : Int) (hb : -1099511627776 ≤ b ∧ b ≤ 1099511627776) (c : Int) (hc : -1099511627776 ≤ c ∧ c ≤ 1099511627776) : Rv ⟨4, 0, nB, [⟨1, a, nB, []⟩, ⟨1, b, nB, []⟩, ⟨1, c, nB, []⟩]⟩ := by
 have w1 : w6 (1 : Int) = 1 := by decide
 have w2 : w6 (2 : Int) = 2 := by decide
 have w3 : w6 (3 : Int) = 3 := by decide
 have w4 : w6 (4 : Int) = 4 := by decide
 refine ⟨fun n hn => ?_, fun n hn => ?_, fun n hn => by obtain ⟨m, rfl⟩ : ∃ m, n = m + 20 := ⟨n - 20, by omega⟩; kernel_rfl⟩
 ·obtain ⟨m, rfl⟩ : ∃ m, n = m + 150 := ⟨n - 150, by omega⟩
  have hcm : ∀ q, oQ (q + 50) [bD.mk 1 [], bD.mk 1 [], bD.mk 1 []] = some (⟨4, [⟨1, []⟩]⟩, true) := fun q => by kernel_rfl
  have hy : hY (m + 150) ⟨4, [⟨1, []⟩]⟩ = some ⟨4, [⟨1, []⟩]⟩ := by kernel_rfl
  have e : eP (m + 150) ⟨4, 0, nB, [⟨1, a, nB, []⟩, ⟨1, b, nB, []⟩, ⟨1, c, nB, []⟩]⟩ 0 0 = some (⟨4, [⟨1, []⟩]⟩, 0, 4) := by
   rw [eP, fD]
   simp [jV, jR, aS, gd, fR, sz0, w1, qM.prog (m + 149) (by omega)]
   have hcm := hcm (m + 99)
   simp [kJ, idx, w1, w2, w3, w4, pA, sP a ha.1 ha.2 (m + 149) (by omega) 1 1 (by omega), sP b hb.1 hb.2 (m + 149) (by omega) 1 2 (by omega), sP c hc.1 hc.2 (m + 149) (by omega) 1 3 (by omega), hcm]
  unfold lF mP
  rw [e]
  simp [hy]
 ·obtain ⟨m, rfl⟩ : ∃ m, n = m + 150 := ⟨n - 150, by omega⟩
  have hj : ∀ q, mK (q + 50) ⟨1, []⟩ ⟨1, []⟩ = some (⟨1, []⟩, true) := fun q => by kernel_rfl
  have e : dT (m + 150) ⟨4, 0, nB, [⟨1, a, nB, []⟩, ⟨1, b, nB, []⟩, ⟨1, c, nB, []⟩]⟩ 1 0 = some (⟨4, [⟨1, []⟩]⟩, 4, 0) := by
   rw [dT, eH]
   simp [aS, gd, fR, sz0, w1, qM.ref (m + 149) (by omega)]
   have h1 := hj (m + 98); have h2 := hj (m + 97); have h3 := hj (m + 96)
   simp [fA, aS, idx, w1, w2, w3, w4, sG a ha.1 ha.2 (m + 149) (by omega) 2 1 (by omega), sG b hb.1 hb.2 (m + 149) (by omega) 2 2 (by omega), sG c hc.1 hc.2 (m + 149) (by omega) 2 3 (by omega), h1, h2, h3]
  unfold jU lP
  rw [e]
  rfl
theorem cok_cols (l : List aP) (h1 : 1 ≤ l.length) (h2 : l.length ≤ 3) (h : ∀ x, x ∈ l → ∃ k : Int, (-1099511627776 ≤ k ∧ k ≤ 1099511627776) ∧ x = ⟨1, k, nB, []⟩) : Rv ⟨4, 0, nB, l⟩ := by
 match l, h1, h2, h with
 | [a], _, _, h =>
  obtain ⟨a, ha, rfl⟩ := h a (by simp)
  exact Xt a ha
 | [a, b], _, _, h =>
  obtain ⟨a, ha, rfl⟩ := h a (by simp)
  obtain ⟨b, hb, rfl⟩ := h b (by simp)
  exact Xf a ha b hb
 | [a, b, c], _, _, h =>
  obtain ⟨a, ha, rfl⟩ := h a (by simp)
  obtain ⟨b, hb, rfl⟩ := h b (by simp)
  obtain ⟨c, hc, rfl⟩ := h c (by simp)
  exact Xr a ha b hb c hc
theorem So (y : Int) (h0 : 0 ≤ y) (h1 : y < 6) : jP (Xd (⟨#[107]⟩ : ByteArray) (dQ [(IntKind.wrap .u8 (w6 (97 + y)))])) TOk := by
 have : y = 0 ∨ y = 1 ∨ y = 2 ∨ y = 3 ∨ y = 4 ∨ y = 5 := by omega
 rcases this with rfl | rfl | rfl | rfl | rfl | rfl
 ·exact ⟨⟨#[107, 97]⟩, by kernel_rfl, mQ (by decide) (by kernel_rfl)⟩
 ·exact ⟨⟨#[107, 98]⟩, by kernel_rfl, mQ (by decide) (by kernel_rfl)⟩
 ·exact ⟨⟨#[107, 99]⟩, by kernel_rfl, mQ (by decide) (by kernel_rfl)⟩
 ·exact ⟨⟨#[107, 100]⟩, by kernel_rfl, mQ (by decide) (by kernel_rfl)⟩
 ·exact ⟨⟨#[107, 101]⟩, by kernel_rfl, mQ (by decide) (by kernel_rfl)⟩
 ·exact ⟨⟨#[107, 102]⟩, by kernel_rfl, mQ (by decide) (by kernel_rfl)⟩
theorem key_ok (y : Int) (h0 : 0 ≤ y) (h1 : y < 6) : KOk (dQ [107, (IntKind.wrap .u8 (w6 (97 + y)))]) := by
 have : y = 0 ∨ y = 1 ∨ y = 2 ∨ y = 3 ∨ y = 4 ∨ y = 5 := by omega
 refine ⟨fun n hn => ?_, fun n hn => ?_⟩
 ·obtain ⟨m, rfl⟩ : ∃ m, n = m + 60 := ⟨n - 60, by omega⟩
  rcases this with rfl | rfl | rfl | rfl | rfl | rfl <;> kernel_rfl
 ·obtain ⟨m, rfl⟩ : ∃ m, n = m + 60 := ⟨n - 60, by omega⟩
  rcases this with rfl | rfl | rfl | rfl | rfl | rfl <;> kernel_rfl
theorem Uz : KOk nB := by
 refine ⟨fun n hn => ?_, fun n hn => ?_⟩
 ·obtain ⟨m, rfl⟩ : ∃ m, n = m + 60 := ⟨n - 60, by omega⟩
  kernel_rfl
 ·obtain ⟨m, rfl⟩ : ∃ m, n = m + 60 := ⟨n - 60, by omega⟩
  kernel_rfl
theorem Ya (n : Nat) {p : aW} (h : bR p) : jP (oZ n p) fun y => TOk y.1 ∧ bR y.2 := by
 unfold oZ
 refine aK (cO n h (by decide)) fun y ⟨a, b, c⟩ => ?_
 have b := b (by decide)
 refine aK (mG a b) fun e he => bZ ⟨?_, c⟩
 show TOk e
 simp only [List.mem_cons, List.not_mem_nil, or_false] at he
 rcases he with rfl | rfl | rfl | rfl | rfl | rfl | rfl | rfl
 ·exact mQ (by decide) (by kernel_rfl)
 ·exact mQ (by decide) (by kernel_rfl)
 ·exact mQ (by decide) (by kernel_rfl)
 ·exact mQ (by decide) (by kernel_rfl)
 ·exact mQ (by decide) (by kernel_rfl)
 ·exact mQ (by decide) (by kernel_rfl)
 ·exact mQ (by decide) (by kernel_rfl)
 ·exact mQ (by decide) (by kernel_rfl)
theorem src_Raw (n : Nat) {p : aW} (h : bR p) : jP (Bc n p) fun y => bR y.2 := by
 have h0 := h.lo
 have h1 := h.hi
 have h2 := h.len
 have w1 : w6 (p.At + 1) = p.At + 1 := wS (by omega) (by omega)
 have w2 : w6 (p.At + 1 - 1) = p.At := by rw [show p.At + 1 - 1 = p.At by omega]; exact wS (by omega) (by omega)
 unfold Bc
 refine bO (fun _ => bZ h) fun hc => ?_
 simp only [decide_eq_false_iff_not] at hc
 rw [w1, w2]
 exact aK (mG h0 (by omega)) fun e _ => bZ ⟨by show 0 ≤ p.At + 1; omega, by show p.At + 1 ≤ (p.L.length : Int); omega, h2⟩
theorem Sq (n : Nat) {p : aW} (k : Int) (h : bR p) (hk : k ≤ 1000000) : jP (sR n p k) fun y => bR y.2 := by
 unfold sR
 exact aK (cO n h (by omega)) fun y ⟨_, _, c⟩ => bZ c
theorem Pv (n : Nat) {p : aW} (h : bR p) : jP (uU n p) fun y => bR y.2 := by
 unfold uU qN
 refine aK (P := fun l => l.length = 89) ⟨_, rfl, rfl⟩ fun l hl => ?_
 refine aK (Sq n 40 h (by decide)) fun y c => bO (fun _ => aK (src_Raw n c) fun z cz => bZ cz) fun _ => ?_
 rw [hl]
 refine aK (cO n c (by decide)) fun y ⟨a, b, c⟩ => ?_
 have b := b (by decide)
 exact aK (mG a (by rw [hl]; exact b)) fun e _ => bZ c
theorem Wi (j : List Int → List Int → Int → Option ((List Int) × aW)) (y1 y2 : Int × aW) {Q : (List Int) × aW → Prop} (hj : ∀ l L A, bR ⟨L, A⟩ → l.length = 5 → jP (j l L A) Q) : ∀ (k n : Nat) (q : Int) (l L : List Int) (A : Int), q + k = 5 → 0 ≤ q → k < n → bR ⟨L, A⟩ → l.length + k = 5 → jP (mW j y1 y2 n l q L A) Q
 | k, 0, q, l, L, A, _, _, h, _, _ => by omega
 | 0, n + 1, q, l, L, A, h1, h0, h2, h, h3 => by
  rw [mW]
  exact bO (fun hc => by simp only [decide_eq_true_eq] at hc; omega) fun _ => hj l L A h (by omega)
 | k + 1, n + 1, q, l, L, A, h1, h0, h2, h, h3 => by
  have hw : w6 (q + 1) = q + 1 := wS (by omega) (by omega)
  rw [mW, hw]
  refine bO (fun _ => ?_) fun hc => by simp only [decide_eq_false_iff_not] at hc; omega
  refine aK (Pv n h) fun y c => aK (dK (by simp; omega) (by decide)) fun r hr => ?_
  subst hr
  exact Wi j y1 y2 hj k n (q + 1) _ _ _ (by omega) (by omega) (by omega) c (by simp; omega)
theorem Vx (y1 y2 : Int × aW) (some_ : List Int) (hs : some_.length = 5) (hy : y1.1 ≤ 8) (j : List Int → List Int → Int → Option ((List Int) × aW)) {Q : (List Int) × aW → Prop} (hj : ∀ l L A, bR ⟨L, A⟩ → l.length ≤ 8 → jP (j l L A) Q) : ∀ (k n : Nat) (q : Int) (l L : List Int) (A : Int), q + k = 8 → 0 ≤ q → k < n → bR ⟨L, A⟩ → l.length + k ≤ 8 → jP (mM y1 y2 some_ j n l q L A) Q
 | k, 0, q, l, L, A, _, _, h, _, _ => by omega
 | 0, n + 1, q, l, L, A, h1, h0, h2, h, h3 => by
  rw [mM]
  exact bO (fun hc => by simp only [decide_eq_true_eq] at hc; omega) fun _ => hj l L A h (by omega)
 | k + 1, n + 1, q, l, L, A, h1, h0, h2, h, h3 => by
  have hw : w6 (q + 1) = q + 1 := wS (by omega) (by omega)
  rw [mM, hw]
  refine bO (fun _ => ?_) fun _ => hj l L A h (by omega)
  refine cA (fun l L A => bR ⟨L, A⟩ ∧ l.length + k ≤ 8) (fun l L A ⟨a, b⟩ => Vx y1 y2 some_ hs hy j hj k n (q + 1) l L A (by omega) (by omega) (by omega) a b) fun j2 k2 => ?_
  refine bO (fun _ => ?_) fun _ => ?_
  ·refine aK (cO n h (by decide)) fun y ⟨a, b, c⟩ => aK (mG a (by rw [hs]; exact b (by decide))) fun e _ => aK (dK (by simp; omega) (by decide)) fun r hr => ?_
   subst hr
   exact k2 _ _ _ ⟨c, by simp; omega⟩
  ·refine aK (Pv n h) fun y c => aK (dK (by simp; omega) (by decide)) fun r hr => ?_
   subst hr
   exact k2 _ _ _ ⟨c, by simp; omega⟩
theorem src_Text (n : Nat) (hn : 20 ≤ n) {p : aW} (h : bR p) : jP (wY n p 8) fun y => y.1.length ≤ 8 ∧ bR y.2 := by
 unfold wY
 refine aK (cO n h (by decide)) fun y1 ⟨_, b1, c1⟩ => aK (cO n c1 (by decide)) fun y2 ⟨_, _, c2⟩ => ?_
 have b1 := b1 (by decide)
 have e9 : w6 (8 + 1) = 9 := by decide
 rw [e9] at b1
 refine cA (fun l L A => bR ⟨L, A⟩ ∧ l.length = 5) (fun l L A ⟨a, b⟩ => ?_) fun j k => Wi j y1 y2 (fun l L A a b => k l L A ⟨a, b⟩) 5 n 0 [] _ _ (by omega) (by omega) (by omega) c2 rfl
 exact cA (fun l L A => bR ⟨L, A⟩ ∧ l.length ≤ 8) (fun l L A ⟨a, b⟩ => bZ ⟨b, a⟩) fun j k => Vx y1 y2 l b (by omega) j (fun l L A a b => k l L A ⟨a, b⟩) 8 n 0 [] _ _ (by omega) (by omega) (by omega) a (by simp)
theorem Xw (n : Nat) {p : aW} (l : List Int) (hl : l.length ≤ 8) (h : bR p) : jP (uV n p l) fun y => TOk (runesBytes y.1) ∧ bR y.2 := by
 unfold uV Da
 have hs := runesBytes_size_le l
 rw [if_pos (by omega)]
 refine aK (P := fun r => r = sK (runesBytes l)) (bZ rfl) fun r hr => bZ ⟨?_, h⟩
 subst hr
 show TOk (runesBytes (sK (runesBytes l)))
 rw [Jq _ (Eo l)]
 exact mQ (by omega) (Eo l)
theorem Vk (n : Nat) {p : aW} {k : Int} {b : Bool} (hk : k ≤ 1000000) (h : bR p) : jP (ifO [b] (cF n p k) ((default : Int), p)) fun y => bR y.2 := by
 unfold ifO
 split
 ·exact tot_mono (cO n h (by omega)) fun y hy => hy.2.2
 ·exact bZ h
def anm : List ByteArray := [(⟨#[97, 98, 111, 118, 101]⟩ : ByteArray), (⟨#[97, 108, 105, 103, 110, 108, 101, 102, 116]⟩ : ByteArray), (⟨#[99, 104, 101, 99, 107, 101, 100]⟩ : ByteArray), (⟨#[99, 108, 97, 115, 115]⟩ : ByteArray), (⟨#[99, 111, 108, 117, 109, 110, 115]⟩ : ByteArray), (⟨#[100, 105, 115, 97, 98, 108, 101, 100]⟩ : ByteArray), (⟨#[104, 101, 105, 103, 104, 116]⟩ : ByteArray), (⟨#[104, 105, 100, 100, 101, 110]⟩ : ByteArray), (⟨#[108, 101, 102, 116]⟩ : ByteArray), (⟨#[112, 105, 110, 110, 101, 100]⟩ : ByteArray), (⟨#[115, 99, 97, 108, 101]⟩ : ByteArray), (⟨#[115, 112, 97, 110]⟩ : ByteArray), (⟨#[116, 101, 120, 116]⟩ : ByteArray), (⟨#[116, 117, 114, 110]⟩ : ByteArray), (⟨#[119, 105, 100, 116, 104]⟩ : ByteArray)]
theorem anm_ok (i : Nat) (h : i < 15) : Um (anm.getD i default) := by
 rcases i with _ | _ | _ | _ | _ | _ | _ | _ | _ | _ | _ | _ | _ | _ | _ | i
 iterate 15 exact vO (by kernel_rfl)
 omega
theorem anm_lt : ∀ i, i < 15 → ∀ q, q < i → Rz (anm.getD q default) (anm.getD i default) = true ∧ Rx (anm.getD i default) (anm.getD q default) = false := by
 have h : ((List.range 15).all fun i => (List.range i).all fun q => Rz (anm.getD q default) (anm.getD i default) && !(Rx (anm.getD i default) (anm.getD q default))) = true := by kernel_rfl
 intro i hi q hq
 have h1 := List.all_eq_true.1 (List.all_eq_true.1 h i (by simpa using hi)) q (by simpa using hq)
 simpa using h1
structure AL (i : Nat) (l : List bJ) : Prop where
 len : l.length ≤ i
 ok : ∀ a, a ∈ l → AOk a
 idx : ∃ js : List Nat, js.Pairwise (· < ·) ∧ (∀ q, q ∈ js → q < i) ∧ l.map bJ.Name = js.map fun q => anm.getD q default
theorem AL.weak {i : Nat} {l : List bJ} (h : AL i l) : AL (i + 1) l := ⟨by have := h.len; omega, h.ok, let ⟨js, a, b, c⟩ := h.idx; ⟨js, a, fun q hq => by have := b q hq; omega, c⟩⟩
theorem AL.app {i : Nat} {l : List bJ} (h : AL i l) (hi : i < 15) (nm : ByteArray) (hn : nm = anm.getD i default) (x : aP) (hx : Rv x) : AL (i + 1) (l ++ [⟨nm, x⟩]) := by
 obtain ⟨js, a, b, c⟩ := h.idx
 refine ⟨by have := h.len; simp; omega, fun y hy => ?_, js ++ [i], ?_, fun q hq => ?_, ?_⟩
 ·rcases List.mem_append.1 hy with hy | hy
  ·exact h.ok y hy
  ·simp only [List.mem_singleton] at hy
   subst hy hn
   exact ⟨anm_ok i hi, hx⟩
 ·rw [List.pairwise_append]
  exact ⟨a, by simp, fun q hq r hr => by simp only [List.mem_singleton] at hr; subst hr; exact b q hq⟩
 ·rcases List.mem_append.1 hq with hq | hq
  ·have := b q hq; omega
  ·simp only [List.mem_singleton] at hq; omega
 ·rw [List.map_append, List.map_append, c, hn]; rfl
theorem AL.sort {l : List bJ} (h : AL 15 l) (i : Nat) (a b : bJ) (ha : l[i]? = some a) (hb : l[i + 1]? = some b) : Rz a.Name b.Name = true ∧ Rx b.Name a.Name = false := by
 obtain ⟨js, p, q, r⟩ := h.idx
 have h1 := congrArg (fun z => z[i]?) r
 have h2 := congrArg (fun z => z[i + 1]?) r
 simp only [List.getElem?_map, ha, hb, Option.map_some] at h1 h2
 have ab : js.length = l.length := by have := congrArg List.length r; simpa using this.symm
 have hil := (List.getElem?_eq_some_iff.1 hb).1
 rw [List.getElem?_eq_getElem (by omega)] at h1 h2
 simp only [Option.map_some, Option.some.injEq] at h1 h2
 rw [h1, h2]
 exact anm_lt _ (q _ (List.getElem_mem _)) _ (List.pairwise_iff_getElem.1 p i (i + 1) (by omega) (by omega) (by omega))
theorem Mc (j : List Int → Int → List aP → Option ((List bJ) × aW)) (p1 : Int) (v32 : List bJ) {Q : (List bJ) × aW → Prop} (hj : ∀ L A l, bR ⟨L, A⟩ → Rv ⟨4, 0, nB, l⟩ → jP (j L A l) Q) : ∀ (k n : Nat) (q : Int) (L : List Int) (A : Int) (l : List aP), q = k → k < n → bR ⟨L, A⟩ → 1 ≤ k + l.length → k + l.length ≤ 3 → (∀ x, x ∈ l → ∃ k : Int, (-1099511627776 ≤ k ∧ k ≤ 1099511627776) ∧ x = ⟨1, k, nB, []⟩) → jP (lK j p1 v32 n q L A l) Q
 | k, 0, q, L, A, l, _, h, _, _, _, _ => by omega
 | 0, n + 1, q, L, A, l, hq, hn, h, h1, h2, hl => by
  rw [lK]
  exact bO (fun hc => by simp only [decide_eq_true_eq] at hc; omega) fun _ => hj L A l h (cok_cols l (by omega) (by omega) hl)
 | k + 1, n + 1, q, L, A, l, hq, hn, h, h1, h2, hl => by
  have hw : w6 (q - 1) = q - 1 := wS (by omega) (by omega)
  rw [lK, hw]
  refine bO (fun _ => ?_) fun hc => by simp only [decide_eq_false_iff_not] at hc; omega
  refine aK (cO n h (by decide)) fun y ⟨a, b, c⟩ => aK (mG a (b (by decide))) fun e he => ?_
  refine aK (P := fun y => y = aP.mk 1 e nB []) ⟨_, rfl, rfl⟩ fun x hx => aK (dK (by simp; omega) (by decide)) fun r hr => ?_
  subst hr hx
  refine Mc j p1 v32 hj k n (q - 1) _ _ _ (by omega) (by omega) c (by simp; omega) (by simp; omega) fun x hx => ?_
  rcases List.mem_append.1 hx with hx | hx
  ·exact hl x hx
  ·simp only [List.mem_singleton] at hx
   simp only [List.mem_cons, List.not_mem_nil, or_false] at he
   exact ⟨e, by omega, hx⟩
theorem Kx (n : Nat) (hn : 60 ≤ n) {p : aW} (kind : Int) (h : bR p) : jP (rX n p kind) fun y => AL 15 y.1 ∧ bR y.2 := by
 unfold rX
 refine cA (fun l L A => bR ⟨L, A⟩ ∧ AL 1 l) (fun l1 L1 A1 ⟨s1, a1⟩ => ?_) fun j k => ?_
 rotate_left
 ·exact aK (cO n h (by decide)) fun y ⟨_, _, c⟩ => bO (fun _ => aK (cO n c (by decide)) fun z ⟨za, zb, zc⟩ => aK (So z.1 za (zb (by decide))) fun t ht => aK (P := fun y => y = aP.mk 3 0 t []) ⟨_, rfl, rfl⟩ fun x hx => by subst hx; exact aK (dK (by have := AL.len (⟨by simp, fun a ha => (nomatch ha), [], .nil, fun q hq => (nomatch hq), rfl⟩ : AL 0 []); simp at this ⊢ <;> omega) (by decide)) fun r hr => by subst hr; exact k _ _ _ ⟨zc, AL.app (⟨by simp, fun a ha => (nomatch ha), [], .nil, fun q hq => (nomatch hq), rfl⟩ : AL 0 []) (by decide) _ (by kernel_rfl) _ (vE t ht)⟩) fun _ => k _ _ _ ⟨c, AL.weak (⟨by simp, fun a ha => (nomatch ha), [], .nil, fun q hq => (nomatch hq), rfl⟩ : AL 0 [])⟩
 refine cA (fun l L A => bR ⟨L, A⟩ ∧ AL 2 l) (fun l2 L2 A2 ⟨s2, a2⟩ => ?_) fun j k => ?_
 rotate_left
 ·exact aK (cO n s1 (by decide)) fun y ⟨_, _, c⟩ => bO (fun _ => aK (cO n c (by decide)) fun z ⟨za, zb, zc⟩ => aK (So z.1 za (zb (by decide))) fun t ht => aK (P := fun y => y = aP.mk 3 0 t []) ⟨_, rfl, rfl⟩ fun x hx => by subst hx; exact aK (dK (by have := AL.len a1; simp at this ⊢ <;> omega) (by decide)) fun r hr => by subst hr; exact k _ _ _ ⟨zc, AL.app a1 (by decide) _ (by kernel_rfl) _ (vE t ht)⟩) fun _ => k _ _ _ ⟨c, AL.weak a1⟩
 refine cA (fun l L A => bR ⟨L, A⟩ ∧ AL 3 l) (fun l3 L3 A3 ⟨s3, a3⟩ => ?_) fun j k => ?_
 rotate_left
 ·exact aK (cO n s2 (by decide)) fun y ⟨_, _, c⟩ => bO (fun _ => aK (cO n c (by decide)) fun z ⟨za, zb, zc⟩ => aK (P := fun y => y = aP.mk 2 z.1 nB []) ⟨_, rfl, rfl⟩ fun x hx => by subst hx; exact aK (dK (by have := AL.len a2; simp at this ⊢ <;> omega) (by decide)) fun r hr => by subst hr; exact k _ _ _ ⟨zc, AL.app a2 (by decide) _ (by kernel_rfl) _ (xB z.1 (by have := zb (by decide); omega))⟩) fun _ => k _ _ _ ⟨c, AL.weak a2⟩
 refine cA (fun l L A => bR ⟨L, A⟩ ∧ AL 4 l) (fun l4 L4 A4 ⟨s4, a4⟩ => ?_) fun j k => ?_
 rotate_left
 ·exact aK (cO n s3 (by decide)) fun y ⟨_, _, c⟩ => bO (fun _ => aK (Ya n c) fun z ⟨zt, zc⟩ => aK (P := fun y => y = aP.mk 3 0 z.1 []) ⟨_, rfl, rfl⟩ fun x hx => by subst hx; exact aK (dK (by have := AL.len a3; simp at this ⊢ <;> omega) (by decide)) fun r hr => by subst hr; exact k _ _ _ ⟨zc, AL.app a3 (by decide) _ (by kernel_rfl) _ (vE z.1 zt)⟩) fun _ => k _ _ _ ⟨c, AL.weak a3⟩
 refine cA (fun l L A => bR ⟨L, A⟩ ∧ AL 5 l) (fun l5 L5 A5 ⟨s5, a5⟩ => ?_) fun j k => ?_
 rotate_left
 ·exact aK (cO n s4 (by decide)) fun y ⟨_, _, c⟩ => bO (fun _ => cA (fun L A l => bR ⟨L, A⟩ ∧ Rv ⟨4, 0, nB, l⟩) (fun L A l ⟨lc, lo⟩ => aK (dK (by have := AL.len a4; simp at this ⊢ <;> omega) (by decide)) fun r hr => by subst hr; exact k _ _ _ ⟨lc, AL.app a4 (by decide) _ (by kernel_rfl) _ lo⟩) fun j2 k2 => aK (Cz n c (by decide) (by decide) (by decide)) fun z ⟨za, zb, zc⟩ => Mc j2 _ _ (fun L A l a b => k2 L A l ⟨a, b⟩) z.1.toNat n z.1 _ _ [] (by omega) (by omega) zc (by simp <;> omega) (by simp <;> omega) (fun x hx => nomatch hx)) fun _ => k _ _ _ ⟨c, AL.weak a4⟩
 refine cA (fun l L A => bR ⟨L, A⟩ ∧ AL 6 l) (fun l6 L6 A6 ⟨s6, a6⟩ => ?_) fun j k => ?_
 rotate_left
 ·exact aK (cO n s5 (by decide)) fun y ⟨_, _, c⟩ => bO (fun _ => aK (cO n c (by decide)) fun z ⟨za, zb, zc⟩ => aK (P := fun y => y = aP.mk 2 z.1 nB []) ⟨_, rfl, rfl⟩ fun x hx => by subst hx; exact aK (dK (by have := AL.len a5; simp at this ⊢ <;> omega) (by decide)) fun r hr => by subst hr; exact k _ _ _ ⟨zc, AL.app a5 (by decide) _ (by kernel_rfl) _ (xB z.1 (by have := zb (by decide); omega))⟩) fun _ => k _ _ _ ⟨c, AL.weak a5⟩
 refine cA (fun l L A => bR ⟨L, A⟩ ∧ AL 7 l) (fun l7 L7 A7 ⟨s7, a7⟩ => ?_) fun j k => ?_
 rotate_left
 ·exact aK (Vk n (by decide) s6) fun y c => bO (fun _ => aK (cO n c (by decide)) fun z ⟨za, zb, zc⟩ => aK (P := fun y => y = aP.mk 1 z.1 nB []) ⟨_, rfl, rfl⟩ fun x hx => by subst hx; exact aK (dK (by have := AL.len a6; simp at this ⊢ <;> omega) (by decide)) fun r hr => by subst hr; exact k _ _ _ ⟨zc, AL.app a6 (by decide) _ (by kernel_rfl) _ (yI z.1 (by omega) (by have := zb (by decide); omega))⟩) fun _ => k _ _ _ ⟨c, AL.weak a6⟩
 refine cA (fun l L A => bR ⟨L, A⟩ ∧ AL 8 l) (fun l8 L8 A8 ⟨s8, a8⟩ => ?_) fun j k => ?_
 rotate_left
 ·exact aK (cO n s7 (by decide)) fun y ⟨_, _, c⟩ => bO (fun _ => aK (cO n c (by decide)) fun z ⟨za, zb, zc⟩ => aK (P := fun y => y = aP.mk 2 z.1 nB []) ⟨_, rfl, rfl⟩ fun x hx => by subst hx; exact aK (dK (by have := AL.len a7; simp at this ⊢ <;> omega) (by decide)) fun r hr => by subst hr; exact k _ _ _ ⟨zc, AL.app a7 (by decide) _ (by kernel_rfl) _ (xB z.1 (by have := zb (by decide); omega))⟩) fun _ => k _ _ _ ⟨c, AL.weak a7⟩
 refine cA (fun l L A => bR ⟨L, A⟩ ∧ AL 9 l) (fun l9 L9 A9 ⟨s9, a9⟩ => ?_) fun j k => ?_
 rotate_left
 ·exact aK (cO n s8 (by decide)) fun y ⟨_, _, c⟩ => bO (fun _ => aK (cO n c (by decide)) fun z ⟨za, zb, zc⟩ => aK (So z.1 za (zb (by decide))) fun t ht => aK (P := fun y => y = aP.mk 3 0 t []) ⟨_, rfl, rfl⟩ fun x hx => by subst hx; exact aK (dK (by have := AL.len a8; simp at this ⊢ <;> omega) (by decide)) fun r hr => by subst hr; exact k _ _ _ ⟨zc, AL.app a8 (by decide) _ (by kernel_rfl) _ (vE t ht)⟩) fun _ => k _ _ _ ⟨c, AL.weak a8⟩
 refine cA (fun l L A => bR ⟨L, A⟩ ∧ AL 10 l) (fun l10 L10 A10 ⟨s10, a10⟩ => ?_) fun j k => ?_
 rotate_left
 ·exact aK (cO n s9 (by decide)) fun y ⟨_, _, c⟩ => bO (fun _ => aK (P := fun y => y = aP.mk 2 1 nB []) ⟨_, rfl, rfl⟩ fun x hx => by subst hx; exact aK (dK (by have := AL.len a9; simp at this ⊢ <;> omega) (by decide)) fun r hr => by subst hr; exact k _ _ _ ⟨c, AL.app a9 (by decide) _ (by kernel_rfl) _ (xB 1 (.inr rfl))⟩) fun _ => k _ _ _ ⟨c, AL.weak a9⟩
 refine cA (fun l L A => bR ⟨L, A⟩ ∧ AL 11 l) (fun l11 L11 A11 ⟨s11, a11⟩ => ?_) fun j k => ?_
 rotate_left
 ·exact aK (cO n s10 (by decide)) fun y ⟨_, _, c⟩ => bO (fun _ => aK (cO n c (by decide)) fun z ⟨za, zb, zc⟩ => aK (P := fun y => y = aP.mk 1 z.1 nB []) ⟨_, rfl, rfl⟩ fun x hx => by subst hx; exact aK (dK (by have := AL.len a10; simp at this ⊢ <;> omega) (by decide)) fun r hr => by subst hr; exact k _ _ _ ⟨zc, AL.app a10 (by decide) _ (by kernel_rfl) _ (yI z.1 (by omega) (by have := zb (by decide); omega))⟩) fun _ => k _ _ _ ⟨c, AL.weak a10⟩
 refine cA (fun l L A => bR ⟨L, A⟩ ∧ AL 12 l) (fun l12 L12 A12 ⟨s12, a12⟩ => ?_) fun j k => ?_
 rotate_left
 ·exact aK (cO n s11 (by decide)) fun y ⟨_, _, c⟩ => bO (fun _ => aK (cO n c (by decide)) fun z ⟨za, zb, zc⟩ => aK (P := fun y => y = aP.mk 1 z.1 nB []) ⟨_, rfl, rfl⟩ fun x hx => by subst hx; exact aK (dK (by have := AL.len a11; simp at this ⊢ <;> omega) (by decide)) fun r hr => by subst hr; exact k _ _ _ ⟨zc, AL.app a11 (by decide) _ (by kernel_rfl) _ (yI z.1 (by omega) (by have := zb (by decide); omega))⟩) fun _ => k _ _ _ ⟨c, AL.weak a11⟩
 refine cA (fun l L A => bR ⟨L, A⟩ ∧ AL 13 l) (fun l13 L13 A13 ⟨s13, a13⟩ => ?_) fun j k => ?_
 rotate_left
 ·exact aK (cO n s12 (by decide)) fun y ⟨_, _, c⟩ => bO (fun _ => aK (src_Text n (by omega) c) fun z ⟨zl, zc⟩ => aK (Xw n z.1 zl zc) fun w ⟨wt, wc⟩ => aK (P := fun y => y = aP.mk 3 0 (runesBytes w.1) []) ⟨_, rfl, rfl⟩ fun x hx => by subst hx; exact aK (dK (by have := AL.len a12; simp at this ⊢ <;> omega) (by decide)) fun r hr => by subst hr; exact k _ _ _ ⟨wc, AL.app a12 (by decide) _ (by kernel_rfl) _ (vE _ wt)⟩) fun _ => k _ _ _ ⟨c, AL.weak a12⟩
 refine cA (fun l L A => bR ⟨L, A⟩ ∧ AL 14 l) (fun l14 L14 A14 ⟨s14, a14⟩ => ?_) fun j k => ?_
 rotate_left
 ·exact aK (cO n s13 (by decide)) fun y ⟨_, _, c⟩ => bO (fun _ => aK (cO n c (by decide)) fun z ⟨za, zb, zc⟩ => aK (P := fun y => y = aP.mk 1 z.1 nB []) ⟨_, rfl, rfl⟩ fun x hx => by subst hx; exact aK (dK (by have := AL.len a13; simp at this ⊢ <;> omega) (by decide)) fun r hr => by subst hr; exact k _ _ _ ⟨zc, AL.app a13 (by decide) _ (by kernel_rfl) _ (yI z.1 (by omega) (by have := zb (by decide); omega))⟩) fun _ => k _ _ _ ⟨c, AL.weak a13⟩
 refine cA (fun l L A => bR ⟨L, A⟩ ∧ AL 15 l) (fun l L A ⟨a, b⟩ => bZ ⟨b, a⟩) fun j k => ?_
 exact aK (Vk n (by decide) s14) fun y c => bO (fun _ => aK (cO n c (by decide)) fun z ⟨za, zb, zc⟩ => aK (P := fun y => y = aP.mk 1 z.1 nB []) ⟨_, rfl, rfl⟩ fun x hx => by subst hx; exact aK (dK (by have := AL.len a14; simp at this ⊢ <;> omega) (by decide)) fun r hr => by subst hr; exact k _ _ _ ⟨zc, AL.app a14 (by decide) _ (by kernel_rfl) _ (yI z.1 (by omega) (by have := zb (by decide); omega))⟩) fun _ => k _ _ _ ⟨c, AL.weak a14⟩
end Go.Proofs.YtojkihhnioeggaaGreatDoor.S
