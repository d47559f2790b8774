import Derived.Test.YtojkihhnioeggaaGreatDoorQEGM15
import Derived.Test.YtojkihhnioeggaaGreatDoorQEVw5
import Derived.WalkLawsBesides
import Derived.Deep.QuietTactic
import Derived.BigQuiet
import Derived.BigRegion
import Derived.Lib.Hide
import Derived.Deep.RegionWith
set_option linter.unusedSimpArgs false
set_option linter.all false
set_option linter.unusedVariables false
namespace Go.Proofs.YtojkihhnioeggaaGreatDoor.S
open Go Go.Bm
theorem Tp {A B C D E F β : Type} {j : A → B → C → D → E → F → Option β} {b : (A → B → C → D → E → F → Option β) → Option β} (R : A → B → C → D → E → F → Prop) {Q : β → Prop} (hj : ∀ a c d e f g, R a c d e f g → jP (j a c d e f g) Q) (hb : ∀ j', (∀ a c d e f g, R a c d e f g → jP (j' a c d e f g) Q) → jP (b j') Q) : jP (aS j b) Q := hb j hj
theorem Uf {A B C D E F G β : Type} {j : A → B → C → D → E → F → G → Option β} {b : (A → B → C → D → E → F → G → Option β) → Option β} (R : A → B → C → D → E → F → G → Prop) {Q : β → Prop} (hj : ∀ a c d e f g h, R a c d e f g h → jP (j a c d e f g h) Q) (hb : ∀ j', (∀ a c d e f g h, R a c d e f g h → jP (j' a c d e f g h) Q) → jP (b j') Q) : jP (aS j b) Q := hb j hj
theorem Al : ∀ (l : List aN) (i : Nat) (x y : aN), l[i]? = some y → bY (l.set i x) + eU y = bY l + eU x
 | [], i, x, y, h => by simp at h
 | k :: l, 0, x, y, h => by
  simp only [List.getElem?_cons_zero, Option.some.injEq] at h
  subst h
  rw [List.set_cons_zero, bY, bY]
  omega
 | k :: l, i + 1, x, y, h => by
  rw [List.getElem?_cons_succ] at h
  have := Al l i x y h
  rw [List.set_cons_succ, bY, bY]
  omega
theorem Ll : ∀ (l : List aN) (i : Nat), bY (l.take i) + bY (l.drop i) = bY l := fun l i => by
 rw [← iF, List.take_append_drop]
theorem Ns (l : List aN) (i : Nat) : bY (l.drop (i + 1)) ≤ bY (l.drop i) := by
 cases h : l.drop i with
 | nil =>
  have : l.drop (i + 1) = [] := by rw [List.drop_eq_nil_iff] at h ⊢; omega
  rw [this]; exact Nat.le_refl _
 | cons a b =>
  have : l.drop (i + 1) = b := by rw [← List.drop_drop, h]; rfl
  rw [this, bY]; omega
structure KO (K d S : Nat) (l : List aN) : Prop where
 len : l.length ≤ K
 ok : ∀ k, k ∈ l → VW K d k
 sz : bY l ≤ S
theorem KO.mono {K d S K' d' S' : Nat} {l : List aN} (h : KO K d S l) (h1 : K ≤ K') (h2 : d ≤ d') (h3 : S ≤ S') : KO K' d' S' l := ⟨Nat.le_trans h.len h1, fun k hk => VW.mono h1 d d' k h2 (h.ok k hk), Nat.le_trans h.sz h3⟩
theorem qL {i : Int} {n : Nat} (h0 : 0 ≤ i) (h1 : i < n) : jP (rL i n) fun k => k < n ∧ (k : Int) = i := by
 unfold rL; rw [if_pos ⟨h0, h1⟩]; exact bZ ⟨by omega, by omega⟩
theorem nX {α : Type} {l : List α} {k : Nat} (h : k < l.length) : jP (l[k]?) fun x => l[k]? = some x := by
 rw [List.getElem?_eq_getElem h]; exact bZ rfl
theorem Ce {α : Type} {l : List α} {a b : Int} (h0 : 0 ≤ a) (h1 : a ≤ b) (h2 : b ≤ l.length) : jP (Bm.Fd l a b) fun r => r = (l.take b.toNat).drop a.toNat := by
 unfold Bm.Fd; rw [if_pos ⟨h0, h1, h2⟩]; exact bZ rfl
theorem Wd {K d S : Nat} {l : List aN} (h : KO K d S l) {i j : Nat} {a b c : aN} (hi : l[i]? = some a) (hj : l[j]? = some b) (hc : (l.set i b)[j]? = some c) : KO K d S ((l.set i b).set j a) := by
 have m1 := List.mem_of_getElem? hi
 have m2 := List.mem_of_getElem? hj
 refine ⟨by simp; exact h.len, fun k hk => ?_, ?_⟩
 ·rcases List.mem_or_eq_of_mem_set hk with hk | rfl
  ·rcases List.mem_or_eq_of_mem_set hk with hk | rfl
   ·exact h.ok k hk
   ·exact h.ok _ m2
  ·exact h.ok _ m1
 ·have e1 := Al l i b a hi
  have e2 := Al (l.set i b) j a c hc
  have hbc : eU c = eU b := by
   by_cases e : i = j
   ·subst e
    have ae := (List.getElem?_eq_some_iff.1 hi).1
    rw [List.getElem?_set_self ae] at hc
    rw [← Option.some.inj hc]
   ·rw [List.getElem?_set_ne e, hj] at hc
    rw [Option.some.inj hc]
  have := h.sz
  omega
theorem Qn {K d S : Nat} (hK : K ≤ 50) (j : Int → ByteArray → List bJ → List Int → Int → List aN → Option (aN × aW)) (p1 : aN) (y10 : Int × aW) {Q : aN × aW → Prop} (hj : ∀ l, KO K d S l → jP (j p1.Kind p1.Key p1.Attrs y10.2.L y10.2.At l) Q) : ∀ (k n : Nat) (a b : Int) (l : List aN), KO K d S l → 0 ≤ a → b < l.length → -1 ≤ b → b - a < k → a ≤ 100 → k < n → jP (kE j p1 y10 n a b l) Q
 | k, 0, a, b, l, _, _, _, _, _, _, h => by omega
 | 0, n + 1, a, b, l, hl, h0, h1, h2, h3, h5, h4 => by
  rw [kE, if_neg (by simp; omega)]
  exact hj l hl
 | k + 1, n + 1, a, b, l, hl, h0, h1, h2, h3, h5, h4 => by
  have ab := hl.len
  rw [kE]
  refine bO (fun hc => ?_) fun _ => hj l hl
  simp only [decide_eq_true_eq] at hc
  refine aK (qL h0 (by omega)) fun k48 ⟨c1, c2⟩ => aK (nX c1) fun e49 he49 => aK (qL (by omega) h1) fun k50 ⟨c3, c4⟩ => aK (nX c3) fun e51 he51 => aK (qL h0 (by omega)) fun k52 ⟨c5, c6⟩ => aK (nX c5) fun e53 he53 => aK (qL (by omega) (by rw [List.length_set]; exact h1)) fun k54 ⟨c7, c8⟩ => aK (nX c7) fun e55 he55 => ?_
  have hw1 : w6 (a + 1) = a + 1 := wS (by omega) (by omega)
  have ao : w6 (b - 1) = b - 1 := wS (by omega) (by omega)
  obtain rfl : k52 = k48 := by omega
  obtain rfl : k54 = k50 := by omega
  rw [hw1, ao]
  exact Qn hK j p1 y10 hj k n (a + 1) (b - 1) _ (Wd hl he49 he51 he55) (by omega) (by rw [List.length_set, List.length_set]; omega) (by omega) (by omega) (by omega) (by omega)
theorem kks (e : ByteArray) (h : e ∈ [nB, (⟨#[107, 97]⟩ : ByteArray), (⟨#[107, 98]⟩ : ByteArray), (⟨#[107, 122]⟩ : ByteArray)]) : KOk e := by
 simp only [List.mem_cons, List.not_mem_nil, or_false] at h
 refine ⟨fun n hn => ?_, fun n hn => ?_⟩
 ·obtain ⟨m, rfl⟩ : ∃ m, n = m + 60 := ⟨n - 60, by omega⟩
  rcases h with rfl | rfl | rfl | rfl <;> kernel_rfl
 ·obtain ⟨m, rfl⟩ : ∃ m, n = m + 60 := ⟨n - 60, by omega⟩
  rcases h with rfl | rfl | rfl | rfl <;> kernel_rfl
theorem Js (K : Nat) (hK : K ≤ 7) (hK4 : 4 ≤ K) : ∀ (d : Nat) (n : Nat) (p : aW) (v : aN), d + 300 ≤ n → bR p → VW K d v → eU v ≤ 200 → jP (oH n p v) fun y => VW (K + 1) (d + 2) y.1 ∧ eU y.1 ≤ eU v + 5 ∧ bR y.2
 | 0, n, p, v, _, _, h, _ => h.elim
 | d + 1, 0, p, v, hn, _, _, _ => by omega
 | d + 1, n + 1, p, v, hn, hp, ⟨hl, hk⟩, hs => by
  have ah := jF v
  have hkl := hl.klen
  have base : KO K d (bY v.Kids) v.Kids := ⟨hkl, hk, Nat.le_refl _⟩
  have base' : KO (K + 1) (d + 2) (bY v.Kids + 5) v.Kids := base.mono (by omega) (by omega) (by omega)
  rw [oH, oC]
  refine aK (dK (by simp; omega) (by decide)) fun l1 hl1 => ?_
  rw [List.nil_append] at hl1
  subst hl1
  refine aK (Vk n (by decide) hp) fun y2 c2 => bO (fun hc => ?_) fun hc => ?_
  ·simp only [Bool.and_eq_true, decide_eq_true_eq] at hc
   have ab : 0 < v.Kids.length := by omega
   refine aK (cO n c2 (by omega)) fun y3 ⟨a3, b3, c3⟩ => ?_
   have b3 := b3 (by omega)
   refine aK (qL a3 b3) fun k4 ⟨k41, k42⟩ => aK (nX k41) fun e5 he5 => ?_
   have hm5 := List.mem_of_getElem? he5
   have hv5 := sT hm5
   refine aK (Js K hK hK4 d n y3.2 e5 (by omega) c3 (hk e5 hm5) (by omega)) fun y6 ⟨m1, m2, m3⟩ => aK (qL a3 b3) fun k7 ⟨k71, k72⟩ => aK (nX k71) fun e8 he8 => bZ ?_
   obtain rfl : k7 = k4 := by omega
   refine ⟨⟨⟨hl.kind, hl.key, hl.alen, hl.attrs, hl.sort, hl.elen, hl.acts, ?_⟩, fun k ar => ?_⟩, ?_, m3⟩
   ·show (List.set v.Kids k7 y6.1).length ≤ K + 1
    rw [List.length_set]; omega
   ·have ar : k ∈ List.set v.Kids k7 y6.1 := ar
    rcases List.mem_or_eq_of_mem_set ar with ar | rfl
    ·exact VW.mono (by omega) d (d + 2) k (by omega) (hk k ar)
    ·exact m1
   ·have e := Al v.Kids k7 y6.1 e5 he5
    rw [jF]
    show 1 + bY (List.set v.Kids k7 y6.1) ≤ _
    omega
  ·refine Tp (fun kd ky at_ L A kids => (1 ≤ kd ∧ kd ≤ 13) ∧ KOk ky ∧ (at_.length ≤ 24 ∧ (∀ a, a ∈ at_ → AOk a) ∧ ∀ (i : Nat) a b, at_[i]? = some a → at_[i + 1]? = some b → Rz a.Name b.Name = true ∧ Rx b.Name a.Name = false) ∧ bR ⟨L, A⟩ ∧ KO (K + 1) (d + 2) (bY v.Kids + 5) kids) (fun kd ky at_ L A kids ⟨r1, r2, ⟨r3, r4, r5⟩, r6, r7⟩ => bZ ⟨⟨⟨r1, r2, r3, r4, r5, hl.elen, hl.acts, r7.len⟩, r7.ok⟩, by rw [jF]; have := r7.sz; show 1 + bY kids ≤ _; omega, r6⟩) fun j kj => ?_
   have at0 : v.Attrs.length ≤ 24 ∧ (∀ a, a ∈ v.Attrs → AOk a) ∧ ∀ (i : Nat) a b, v.Attrs[i]? = some a → v.Attrs[i + 1]? = some b → Rz a.Name b.Name = true ∧ Rx b.Name a.Name = false := ⟨hl.alen, hl.attrs, hl.sort⟩
   have same : ∀ p : aW, bR p → jP (j v.Kind v.Key v.Attrs p.L p.At v.Kids) _ := fun p hp => kj _ _ _ _ _ _ ⟨hl.kind, hl.key, at0, hp, base'⟩
   refine aK (cO n c2 (by decide)) fun y10 ⟨_, _, c10⟩ => bO (fun _ => ?_) fun _ => bO (fun _ => ?_) fun _ => bO (fun _ => ?_) fun _ => bO (fun _ => ?_) fun _ => bO (fun _ => ?_) fun _ => bO (fun _ => ?_) fun _ => ?_
   ·refine aK (Kx n (by omega) v.Kind c10) fun y11 ⟨al, c11⟩ => kj _ _ _ _ _ _ ⟨hl.kind, hl.key, ⟨by have := al.len; omega, al.ok, al.sort⟩, c11, base'⟩
   ·refine bO (fun hc1 => ?_) fun _ => same _ c10
    simp only [decide_eq_true_eq] at hc1
    refine aK (cO n c10 (by omega)) fun y12 ⟨a12, b12, c12⟩ => aK (cO n c12 (by omega)) fun y13 ⟨a13, b13, c13⟩ => ?_
    have b12 := b12 (by omega)
    have b13 := b13 (by omega)
    refine aK (qL a12 b12) fun k14 ⟨p1, p2⟩ => aK (nX p1) fun e15 he15 => aK (qL a13 b13) fun k16 ⟨p3, p4⟩ => aK (nX p3) fun e17 he17 => aK (qL a12 b12) fun k18 ⟨p5, p6⟩ => aK (nX p5) fun e19 he19 => aK (qL a13 (by rw [List.length_set]; exact b13)) fun k20 ⟨p7, p8⟩ => aK (nX p7) fun e21 he21 => ?_
    obtain rfl : k18 = k14 := by omega
    obtain rfl : k20 = k16 := by omega
    exact kj _ _ _ _ _ _ ⟨hl.kind, hl.key, at0, c13, Wd base' he15 he17 he21⟩
   ·refine bO (fun hc1 => ?_) fun _ => same _ c10
    simp only [decide_eq_true_eq] at hc1
    refine aK (cO n c10 (by omega)) fun y22 ⟨a22, b22, c22⟩ => ?_
    have b22 := b22 (by omega)
    have hw : w6 (y22.1 + 1) = y22.1 + 1 := wS (by omega) (by omega)
    rw [hw]
    refine aK (Ce (by omega) a22 (by omega)) fun l23 h23 => aK (dK (by subst h23; simp; omega) (by decide)) fun l24 h24 => aK (Ce (by omega) (by omega) (Int.le_refl _)) fun l25 h25 => aK (dK (by subst h24; subst h23; subst h25; simp; omega) (by decide)) fun l26 h26 => kj _ _ _ _ _ _ ⟨hl.kind, hl.key, at0, c22, ?_⟩
    obtain ⟨i, hi⟩ : ∃ i : Nat, y22.1 = (i : Int) := ⟨y22.1.toNat, by omega⟩
    rw [hi] at h23 h25
    simp only [Int.toNat_natCast, Int.toNat_zero, List.drop_zero, List.nil_append, List.take_length, show ((i : Int) + 1).toNat = i + 1 by omega] at h23 h24 h25
    subst h26 h25 h24 h23
    have e1 := Ll v.Kids i
    have e2 := Ns v.Kids i
    refine ⟨?_, fun k ar => ?_, ?_⟩
    ·rw [List.length_append, List.length_take, List.length_drop]; omega
    ·rcases List.mem_append.1 ar with ar | ar
     ·exact base'.ok k (List.mem_of_mem_take ar)
     ·exact base'.ok k (List.mem_of_mem_drop ar)
    ·rw [iF]; omega
   ·have hw : w6 ((List.length v.Kids : Int) + 1) = (List.length v.Kids : Int) + 1 := wS (by omega) (by omega)
    rw [hw]
    refine aK (cO n c10 (by omega)) fun y27 ⟨a27, b27, c27⟩ => ?_
    have b27 := b27 (by omega)
    refine aK (Ce (by omega) a27 (by omega)) fun l28 h28 => aK (dK (by subst h28; simp; omega) (by decide)) fun l29 h29 => aK (Pk 1 (by decide) n y27.2 (by omega) c27) fun y30 ⟨v30, _, c30⟩ => aK (dK (by subst h29; subst h28; simp; omega) (by decide)) fun l31 h31 => aK (Ce a27 (by omega) (Int.le_refl _)) fun l32 h32 => aK (dK (by subst h31; subst h29; subst h28; subst h32; simp; omega) (by decide)) fun l33 h33 => kj _ _ _ _ _ _ ⟨hl.kind, hl.key, at0, c30, ?_⟩
    obtain ⟨i, hi⟩ : ∃ i : Nat, y27.1 = (i : Int) := ⟨y27.1.toNat, by omega⟩
    rw [hi] at h28 h32
    simp only [Int.toNat_natCast, Int.toNat_zero, List.drop_zero, List.nil_append, List.take_length] at h28 h29 h32
    subst h33 h32 h31 h29 h28
    have e1 := Ll v.Kids i
    have e2 := v30.small
    refine ⟨?_, fun k ar => ?_, ?_⟩
    ·rw [List.length_append, List.length_append, List.length_take, List.length_drop, List.length_singleton]; omega
    ·rcases List.mem_append.1 ar with ar | ar
     ·rcases List.mem_append.1 ar with ar | ar
      ·exact base'.ok k (List.mem_of_mem_take ar)
      ·simp only [List.mem_singleton] at ar
       subst ar
       exact VW.mono (by omega) 2 (d + 2) _ (by omega) v30.w
     ·exact base'.ok k (List.mem_of_mem_drop ar)
    ·rw [iF, iF, bY, bY]; omega
   ·exact aK (Cz n c10 (by decide) (by decide) (by decide)) fun y34 ⟨r1, r2, c34⟩ => kj _ _ _ _ _ _ ⟨⟨r1, r2⟩, hl.key, at0, c34, base'⟩
   ·refine aK (cO n c10 (by decide)) fun y35 ⟨a35, b35, c35⟩ => aK (mG a35 (b35 (by decide))) fun e36 he36 => kj _ _ _ _ _ _ ⟨hl.kind, kks e36 he36, at0, c35, base'⟩
   ·have hw : w6 ((List.length v.Kids : Int) - 1) = (List.length v.Kids : Int) - 1 := wS (by omega) (by omega)
    rw [hw]
    exact Qn (by omega) j v y10 (fun l hl' => kj _ _ _ _ _ _ ⟨hl.kind, hl.key, at0, c10, hl'⟩) 60 n 0 _ v.Kids base' (by omega) (by omega) (by omega) (by omega) (by omega) (by omega)
def KP (v : aN) (w i : Nat) : Prop := ∀ a, v.Kids[w]? = some a → ∀ q, q < i → ∀ b, v.Kids[q]? = some b → bP a.Key nB = false → bP a.Key b.Key = false
theorem Jm (w : Nat) (v : aN) (p2 : Int) (j : Unit → Option (Int × Int)) (p1 : Int) (hz : v.Kids.length ≤ 100) (hw : w < v.Kids.length) : ∀ (k i n : Nat), i + k = w → k < n → KP v w i → (∃ c, dG (w : Int) v p2 j p1 n (i : Int) = some (c, 6)) ∨ (dG (w : Int) v p2 j p1 n (i : Int) = j () ∧ KP v w w)
 | 0, i, n, hi, hn, hp => by
  obtain ⟨n, rfl⟩ := nS n (by omega)
  obtain rfl : i = w := by omega
  exact .inr ⟨by rw [dG, if_neg (by simp)], hp⟩
 | k + 1, i, n, hi, hn, hp => by
  obtain ⟨n, rfl⟩ := nS n (by omega)
  have hiw : i < w := by omega
  have hil : i < v.Kids.length := by omega
  have ao : w6 ((i : Int) + 1) = ((i + 1 : Nat) : Int) := by rw [wS (by omega) (by omega)]; omega
  have go : (bP v.Kids[w].Key nB = false → bP v.Kids[w].Key v.Kids[i].Key = false) → KP v w (i + 1) := fun h1 a ha q hqi b hb hn' => by
   by_cases hqi2 : q < i
   ·exact hp a ha q hqi2 b hb hn'
   ·obtain rfl : q = i := by omega
    rw [List.getElem?_eq_getElem hil] at hb
    rw [List.getElem?_eq_getElem hw] at ha
    rw [← Option.some.inj hb, ← Option.some.inj ha]
    exact h1 (by rw [Option.some.inj ha]; exact hn')
  rw [dG, if_pos (by simp; omega), dR hw]
  simp only [oB, ao]
  cases hq : bP v.Kids[w].Key nB
  ·simp only [Bool.not_false, Ip, oB, dR hil, Bool.true_and]
   cases he : bP v.Kids[w].Key v.Kids[i].Key
   ·simp only [fT, if_false]
    exact Jm w v p2 j p1 hz hw k (i + 1) n (by omega) (by omega) (go fun _ => he)
   ·simp only [if_true]
    exact .inl ⟨_, rfl⟩
  ·simp only [Bool.not_true, gd_f, oB, Bool.false_and, fT, if_false]
   exact Jm w v p2 j p1 hz hw k (i + 1) n (by omega) (by omega) (go fun h => by rw [hq] at h; cases h)
theorem Qm (v : aN) (p2 p1 : Int) (j : Unit → Option (Int × Int)) (hz : v.Kids.length ≤ 100) : ∀ (k i n : Nat), i + k = v.Kids.length → k + 110 < n → (∀ w, w < i → KP v w w) → (∃ c, dE v p2 p1 j n (i : Int) = some (c, 6)) ∨ (dE v p2 p1 j n (i : Int) = j () ∧ Kz v.Kids)
 | 0, i, n, hi, hn, hp => by
  obtain ⟨n, rfl⟩ := nS n (by omega)
  refine .inr ⟨by rw [dE, if_neg (by simp; omega)], fun w q a b hq ha hb he => hp w (by have := (List.getElem?_eq_some_iff.1 ha).1; omega) a ha q hq b hb he⟩
 | k + 1, i, n, hi, hn, hp => by
  obtain ⟨n, rfl⟩ := nS n (by omega)
  have hil : i < v.Kids.length := by omega
  have ao : w6 ((i : Int) + 1) = ((i + 1 : Nat) : Int) := by rw [wS (by omega) (by omega)]; omega
  rw [dE, if_pos (by simp; omega)]
  unfold aS
  rcases Jm i v p2 (fun _ => dE v p2 p1 j n (w6 ((i : Int) + 1))) p1 hz hil i 0 n (by omega) (by omega) (fun a ha q h => by omega) with ⟨c, h1⟩ | ⟨h1, h2⟩
  ·exact .inl ⟨c, h1⟩
  ·rcases Qm v p2 p1 j hz k (i + 1) n (by omega) (by omega) (fun w hw => by
    by_cases hwi : w < i
    ·exact hp w hwi
    ·obtain rfl : w = i := by omega
     exact h2) with ⟨c, h3⟩ | ⟨h3, h4⟩
   ·refine .inl ⟨c, h1.trans ?_⟩
    rw [ao]; exact h3
   ·refine .inr ⟨h1.trans ?_, h4⟩
    rw [ao]; exact h3
theorem Gh (v : aN) (self : aN → Int → Int → Option (Int × Int)) (p1 : Int) (j : Int → Option (Int × Int)) (d : Nat) (hz : v.Kids.length ≤ 100) (hp : 0 ≤ p1 ∧ p1 ≤ 16) (hs : ∀ k, k ∈ v.Kids → ∀ c : Int, 0 ≤ c → c + eU k ≤ 400 → (∃ c' e, self k (p1 + 1) c = some (c', e) ∧ e ≠ 0) ∨ (self k (p1 + 1) c = some (c + eU k, 0) ∧ KD d k)) : ∀ (l pre : List aN) (n : Nat) (q c : Int), v.Kids = pre ++ l → q = pre.length → l.length < n → 0 ≤ c → c + bY l ≤ 400 →
  (∃ c' e, dD v self p1 j n c q = some (c', e) ∧ e ≠ 0) ∨ (dD v self p1 j n c q = j (c + bY l) ∧ ∀ k, k ∈ l → KD d k)
 | [], pre, n, q, c, hv, hq, hn, h0, h1 => by
  obtain ⟨n, rfl⟩ := nS n (by simp at hn; omega)
  have ab : v.Kids.length = pre.length := by rw [hv]; simp
  refine .inr ⟨?_, fun k hk => nomatch hk⟩
  rw [dD, if_neg (by simp; omega)]
  simp [bY]
 | k :: l, pre, n, q, c, hv, hq, hn, h0, h1 => by
  obtain ⟨n, rfl⟩ := nS n (by simp at hn; omega)
  have ab : v.Kids.length = pre.length + (l.length + 1) := by rw [hv]; simp
  rw [bY] at h1
  have hw : w6 (q + 1) = q + 1 := wS (by omega) (by omega)
  have ao : w6 (p1 + 1) = p1 + 1 := wS (by omega) (by omega)
  rw [dD, if_pos (by simp; omega), kI hv hq]
  simp only [oB, hw, ao]
  rcases hs k (by rw [hv]; simp) c h0 (by omega) with ⟨c', e, h2, h3⟩ | ⟨h2, h3⟩
  ·rw [h2]
   simp only [oB]
   rw [if_pos (by simpa using h3)]
   exact .inl ⟨_, _, rfl, h3⟩
  ·rw [h2]
   simp only [oB, bne_self_eq_false, fT, if_false]
   rcases Gh v self p1 j d hz hp hs l (pre ++ [k]) n (q + 1) (c + eU k) (by rw [hv]; simp) (by simp; omega) (by simp at hn; omega) (by omega) (by omega) with ⟨c', e, h4, h5⟩ | ⟨h4, h5⟩
   ·exact .inl ⟨c', e, h4, h5⟩
   ·refine .inr ⟨?_, fun x hx => ?_⟩
    ·rw [h4, bY]
     congr 1
     omega
    ·rcases List.mem_cons.1 hx with rfl | hx
     ·exact h3
     ·exact h5 x hx
theorem VW.fuel {K : Nat} (hK : K ≤ 8) : ∀ (d : Nat) (v : aN), VW K d v → Cq v ≤ 93 * eU v
 | 0, v, h => h.elim
 | d + 1, v, ⟨h, hk⟩ => by
  rw [vX, jF]
  have key : ∀ l : List aN, (∀ k, k ∈ l → VW K d k) → Hm l ≤ 93 * bY l := by
   intro l
   induction l with
   | nil => intro _; simp [Hm, bY]
   | cons k l ih =>
    intro hl
    have h1 := VW.fuel hK d k (hl k (by simp))
    have h2 := ih fun x hx => hl x (by simp [hx])
    rw [Hm, bY]
    omega
  have h1 := key v.Kids hk
  have h4 := h.klen
  have h5 := h.alen
  have h6 := h.elen
  omega
theorem Sg {K : Nat} (hK : K ≤ 8) (v : aN) : ∀ (d n : Nat) (p1 p2 : Int), VW K d v → Cq v + 400 ≤ n → 0 ≤ p1 → p1 + d ≤ 17 → 0 ≤ p2 → p2 + eU v ≤ 400 → (∃ c e, dH n v p1 p2 = some (c, e) ∧ e ≠ 0) ∨ (dH n v p1 p2 = some (p2 + eU v, 0) ∧ KD d v) := by
 induction v using kU with
 | h v ih =>
  intro d n p1 p2 hv hn h1 h2 h3 h4
  match d, hv with
  | d + 1, ⟨hl, hk⟩ =>
  have hfu := vX v
  have ah := jF v
  have hkl := hl.klen
  have hal := hl.alen
  have hel := hl.elen
  obtain ⟨k1, k2⟩ := hl.kind
  obtain ⟨n, rfl⟩ := nS n (by omega)
  have hw : w6 (p2 + 1) = p2 + 1 := wS (by omega) (by omega)
  have c1 : decide (p1 > 16) = false := by simp; omega
  have c2 : decide (p2 + 1 > 400) = false := by simp; omega
  have c3 : (decide (v.Kind < 1) || decide (v.Kind > 13)) = false := by simp; omega
  have c4 : (((decide ((List.length v.Attrs : Int) > 24)) || (decide ((List.length v.Actions : Int) > 24))) || (decide ((List.length v.Kids : Int) > 100))) = false := by simp; omega
  have ih2 := fun k (hm : k ∈ v.Kids) (c : Int) (hc : 0 ≤ c) (hc2 : c + eU k ≤ 400) => ih k hm d n (p1 + 1) c (hk k hm) (by have := qU hm; omega) (by omega) (by omega) hc hc2
  rw [dH, iU]
  simp only [hw, c1, c2, c3, c4, fT, if_false, hl.key.ref n (by omega), oB, Bool.not_true]
  unfold aS
  have e1 := fun j => zY v p2 j p1 hal hl.attrs hl.sort v.Attrs.length 0 n (by omega) (by omega)
  have e2 := fun j => Vp v p2 p1 j hel hl.acts n (by omega)
  have e3 := fun j => Qm v p2 p1 j (by omega) v.Kids.length 0 n (by omega) (by omega) (fun w h => by omega)
  have e4 := fun j => Gh v (fun a0 a1 a2 => dH n a0 a1 a2) p1 j d (by omega) (by omega) ih2 v.Kids [] n 0 (p2 + 1) rfl rfl (by omega) (by omega) (by omega)
  rcases e3 (fun _ => dD v (fun a0 a1 a2 => dH n a0 a1 a2) p1 (fun v72 => some (v72, 0)) n (p2 + 1) 0) with ⟨c, h5⟩ | ⟨h5, h6⟩
  ·exact .inl ⟨c, 6, ((e1 _).trans (e2 _)).trans h5, by decide⟩
  ·rcases e4 (fun v72 => some (v72, 0)) with ⟨c', e, h7, h8⟩ | ⟨h7, h8⟩
   ·exact .inl ⟨c', e, (((e1 _).trans (e2 _)).trans h5).trans h7, h8⟩
   ·refine .inr ⟨(((e1 _).trans (e2 _)).trans h5).trans (h7.trans ?_), h6, h8⟩
    simp only [Option.some.injEq, Prod.mk.injEq, and_true]
    omega
theorem Tc {K : Nat} (hK : K ≤ 8) {d : Nat} (hd : d ≤ 16) {v : aN} (h : VW K d v) (hs : eU v ≤ 150) (n : Nat) (hn : 14400 ≤ n) : ∃ e, eY n v = some e ∧ (e = 0 → KD d v) := by
 have hf := VW.fuel hK d v h
 unfold eY
 rcases Sg hK v d n 1 0 h (by omega) (by decide) (by omega) (by decide) (by omega) with ⟨c, e, h1, h2⟩ | ⟨h1, h2⟩
 ·rw [h1]; exact ⟨e, rfl, fun h => absurd h h2⟩
 ·rw [h1]; exact ⟨0, rfl, fun _ => h2⟩
structure MO (K d S : Nat) (v : aN) : Prop where
 w : VW K d v
 sz : eU v ≤ S
 kd : KD d v
theorem KD.mono : ∀ (d d' : Nat) (K : Nat) (v : aN), d ≤ d' → VW K d v → KD d v → KD d' v
 | 0, _, K, v, _, h, _ => h.elim
 | d + 1, 0, K, v, hd, h, _ => by omega
 | d + 1, d' + 1, K, v, hd, ⟨h, hk⟩, ⟨a, b⟩ => ⟨a, fun k hm => KD.mono d d' K k (by omega) (hk k hm) (b k hm)⟩
theorem MO.mono {K d S K' d' S' : Nat} {v : aN} (h : MO K d S v) (h1 : K ≤ K') (h2 : d ≤ d') (h3 : S ≤ S') : MO K' d' S' v := ⟨VW.mono h1 d d' v h2 h.w, Nat.le_trans h.sz h3, KD.mono d d' K v h2 h.w h.kd⟩
theorem Nd (v : aN) : aN.mk v.Kind v.Key v.Attrs v.Actions v.Kids = v := by cases v; rfl
theorem Pj (j : Int → ByteArray → List bJ → List cS → List aN → List Int → Int → Option (aN × aW)) {Q : aN × aW → Prop} (hj : ∀ v L A, VG v → bR ⟨L, A⟩ → jP (j v.Kind v.Key v.Attrs v.Actions v.Kids L A) Q) : ∀ (k n : Nat) (q : Int) (L : List Int) (A : Int) (v : aN), k ≤ 4 → q + 1 = k → 14500 + k < n → bR ⟨L, A⟩ → MO (8 - k) (12 - 2 * k) (105 - 5 * k) v → jP (kM j n q L A v.Kind v.Key v.Attrs v.Actions v.Kids) Q
 | k, 0, q, L, A, v, _, _, h, _, _ => by omega
 | 0, n + 1, q, L, A, v, hk, hq, hn, h, hm => by
  rw [kM]
  refine bO (fun hc => by simp only [decide_eq_true_eq] at hc; omega) fun _ => hj v L A ⟨Rw.mono 12 13 v (by decide) (VW.ok (by decide) 12 v hm.w hm.kd), by have := hm.sz; omega⟩ h
 | k + 1, n + 1, q, L, A, v, hk, hq, hn, h, hm => by
  have hw : w6 (q - 1) = q - 1 := wS (by omega) (by omega)
  rw [kM, hw]
  refine bO (fun _ => ?_) fun hc => by simp only [decide_eq_false_iff_not] at hc; omega
  have ah := hm.sz
  refine Uf (fun L A kd ky at_ ac kids => bR ⟨L, A⟩ ∧ MO (8 - k) (12 - 2 * k) (105 - 5 * k) ⟨kd, ky, at_, ac, kids⟩) (fun L A kd ky at_ ac kids ⟨a, b⟩ => Pj j hj k n (q - 1) L A (aN.mk kd ky at_ ac kids) (by omega) (by omega) (by omega) a b) fun j1 k1 => ?_
  rw [Nd]
  refine aK (Js (8 - (k + 1)) (by omega) (by omega) (12 - 2 * (k + 1)) n ⟨L, A⟩ v (by omega) h hm.w (by omega)) fun y ⟨m1, m2, m3⟩ => ?_
  rw [show 8 - (k + 1) + 1 = 8 - k by omega, show 12 - 2 * (k + 1) + 2 = 12 - 2 * k by omega] at m1
  obtain ⟨e, he, hk'⟩ := Tc (K := 8 - k) (by omega) (d := 12 - 2 * k) (by omega) m1 (by omega) n (by omega)
  rw [he]
  refine aK (P := fun x => x = e) (bZ rfl) fun x hx => ?_
  subst hx
  refine bO (fun hc => k1 _ _ _ _ _ _ _ ⟨m3, by rw [Nd]; exact ⟨m1, by show eU y.1 ≤ _; omega, hk' (by simpa using hc)⟩⟩) fun _ => k1 _ _ _ _ _ _ _ ⟨m3, by rw [Nd]; exact hm.mono (by omega) (by omega) (by omega)⟩
theorem Tf (n : Nat) (hn : 14600 ≤ n) {p : aW} (h : bR p) {v : aN} (hv : VD 4 v) : jP (sV n p v) fun y => VG y.1 ∧ bR y.2 := by
 have hs := hv.small
 unfold sV aS
 refine aK (cO n h (by decide)) fun y ⟨a, b, c⟩ => ?_
 have b := b (by decide)
 obtain ⟨k, hk⟩ : ∃ k : Nat, y.1 + 1 = (k : Int) := ⟨(y.1 + 1).toNat, by omega⟩
 have base : MO 4 4 85 v := ⟨hv.w, by omega, hv.k⟩
 exact Pj _ (fun v L A hv hs => bZ ⟨by rw [Nd]; exact hv, hs⟩) k n y.1 _ _ v (by omega) hk (by omega) c (base.mono (by omega) (by omega) (by omega))
end Go.Proofs.YtojkihhnioeggaaGreatDoor.S
