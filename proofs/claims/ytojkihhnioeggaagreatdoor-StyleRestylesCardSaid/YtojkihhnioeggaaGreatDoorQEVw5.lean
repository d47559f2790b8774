import Derived.Test.YtojkihhnioeggaaGreatDoorQEVw4
import Derived.WalkLawsBesides
import Derived.Deep.QuietTactic
import Derived.BigQuiet
import Derived.BigRegion
import Derived.Lib.Hide
import Derived.Deep.RegionWith
set_option linter.unusedSimpArgs false
set_option linter.all false
set_option linter.unusedVariables false
namespace Go.Proofs.YtojkihhnioeggaaGreatDoor.S
open Go Go.Bm
theorem We : ∀ (l : List Int) (s : ByteArray), (l.foldl (fun r n => r.push (UInt8.ofNat n.toNat)) s).data.toList = s.data.toList ++ l.map fun n => UInt8.ofNat n.toNat
 | [], s => by simp
 | n :: l, s => by
  rw [List.foldl_cons, We l, List.map_cons]
  simp
theorem wX (l : List Int) : (dQ l).data.toList = l.map fun n => UInt8.ofNat n.toNat := by
 unfold dQ
 rw [We]
 rfl
theorem Wt (l : List Int) (hl : l.length ≤ 100) (h : ∀ x, x ∈ l → 0 ≤ x ∧ x < 128) : TOk (dQ l) := by
 have hs : (dQ l).size = l.length := by
  show (dQ l).data.size = _
  have := congrArg List.length (wX l)
  simpa using this
 refine mQ (by omega) ?_
 rw [wX]
 have := Lib.validD_ascii (l.map fun n => UInt8.ofNat n.toNat).length (l.map fun n => UInt8.ofNat n.toNat) (fun b hb => by
  rw [List.take_length] at hb
  obtain ⟨x, hx, rfl⟩ := List.mem_map.1 hb
  obtain ⟨h0, h1⟩ := h x hx
  rw [UInt8.toNat_ofNat']
  omega)
 rw [this, List.drop_length]
 rfl
theorem La (y1 : Int × aW) (j : List Int → List Int → Int → Option (ByteArray × aW)) {Q : ByteArray × aW → Prop} (hj : ∀ l L A, bR ⟨L, A⟩ → l.length ≤ 4 → (∀ x, x ∈ l → 0 ≤ x ∧ x < 128) → jP (j l L A) Q) : ∀ (k n : Nat) (q : Int) (L : List Int) (A : Int) (l : List Int), q + k = y1.1 → 0 ≤ q → k < n → bR ⟨L, A⟩ → (l.length : Int) = y1.1 → y1.1 ≤ 4 → (∀ x, x ∈ l → 0 ≤ x ∧ x < 128) → jP (nA y1 j n q L A l) Q
 | k, 0, q, L, A, l, _, _, h, _, _, _, _ => by omega
 | 0, n + 1, q, L, A, l, h1, h0, h2, h, h3, h4, hl => by
  rw [nA]
  exact bO (fun hc => by simp only [decide_eq_true_eq] at hc; omega) fun _ => hj l L A h (by omega) hl
 | k + 1, n + 1, q, L, A, l, h1, h0, h2, h, h3, h4, hl => by
  have hw : w6 (q + 1) = q + 1 := wS (by omega) (by omega)
  rw [nA, hw]
  refine bO (fun _ => ?_) fun hc => by simp only [decide_eq_false_iff_not] at hc; omega
  refine aK (cO n h (by decide)) fun y ⟨a, b, c⟩ => ?_
  have b := b (by decide)
  have hin : rL q l.length = some q.toNat := by unfold rL; rw [if_pos ⟨by omega, by omega⟩]
  rw [hin]
  refine aK (P := fun k => k = q.toNat) (bZ rfl) fun k12 hk => ?_
  subst hk
  refine aK (tot_get (by omega)) fun e _ => ?_
  have hwx : IntKind.wrap .u8 (w6 (97 + y.1)) = 97 + y.1 := by
   have : y.1 = 0 ∨ y.1 = 1 ∨ y.1 = 2 ∨ y.1 = 3 := by omega
   rcases this with e | e | e | e <;> rw [e] <;> decide
  refine La y1 j hj k n (q + 1) _ _ _ (by omega) (by omega) (by omega) c (by simpa using h3) h4 fun x hx => ?_
  rcases List.mem_or_eq_of_mem_set hx with hx | rfl
  ·exact hl x hx
  ·rw [hwx]; omega
theorem src_Word (n : Nat) (hn : 20 ≤ n) {p : aW} (h : bR p) : jP (vC n p 4) fun y => TOk y.1 ∧ bR y.2 := by
 unfold vC
 have e5 : w6 (4 + 1) = 5 := by decide
 rw [e5]
 refine aK (cO n h (by decide)) fun y ⟨a, b, c⟩ => ?_
 have b := b (by decide)
 have hm : mkO 1 y.1 = some y.1.toNat := by
  unfold mkO
  rw [if_pos ⟨a, by omega, by unfold maxLen; omega⟩]
 rw [hm]
 refine aK (P := fun k => k = y.1.toNat) (bZ rfl) fun k hk => ?_
 subst hk
 refine cA (fun l L A => bR ⟨L, A⟩ ∧ l.length ≤ 4 ∧ ∀ x, x ∈ l → 0 ≤ x ∧ x < 128) (fun l L A ⟨a, b, c⟩ => bZ ⟨Wt l (by omega) c, a⟩) fun j k => ?_
 refine La y j (fun l L A a b c => k l L A ⟨a, b, c⟩) y.1.toNat n 0 _ _ _ (by omega) (by omega) (by omega) c (by simp; omega) (by omega) fun x hx => ?_
 have := (List.mem_replicate.1 hx).2
 omega
theorem Xo (n : Nat) (hn : 30 ≤ n) {p : aW} (h : bR p) : jP (pZ n p 0) fun y => Rv y.1 ∧ bR y.2 := by
 obtain ⟨n, rfl⟩ := nS n (by omega)
 rw [pZ, pF]
 refine Ug (fun L A => bR ⟨L, A⟩) (fun L A c => ?_) fun j1 k1 => ?_
 ·refine aK (cO n c (by decide)) fun y ⟨a, b, c⟩ => aK (mG a (b (by decide))) fun e he => bZ ⟨?_, c⟩
  simp only [List.mem_cons, List.not_mem_nil, or_false] at he
  exact yI e (by omega) (by omega)
 ·refine aK (cO n h (by decide)) fun y ⟨a, b, c⟩ => bO (fun _ => ?_) fun _ => ?_
  ·exact aK (cO n c (by decide)) fun z ⟨za, zb, zc⟩ => bZ ⟨xB z.1 (by have := zb (by decide); omega), zc⟩
  ·refine sH (fun _ => True) (fun v5 _ => ?_) fun j4 k4 => bO (fun _ => k4 _ trivial) fun _ => k4 _ trivial
   refine bO (fun _ => aK (src_Word n (by omega) c) fun z ⟨zt, zc⟩ => bZ ⟨vE z.1 zt, zc⟩) fun _ => ?_
   refine bO (fun _ => ?_) fun _ => k1 _ _ c
   exact bO (fun hc => by simp at hc) fun _ => k1 _ _ c
theorem VD.rekey {d : Nat} {v : aN} (h : VD d v) (key : ByteArray) (hk : KOk key) : VD d (aN.mk v.Kind key v.Attrs v.Actions v.Kids) := by
 match d, h with
 | 0, h => exact h.w.elim
 | d + 1, ⟨⟨hl, hc⟩, hd, hs⟩ => exact ⟨⟨⟨hl.kind, hk, hl.alen, hl.attrs, hl.sort, hl.elen, hl.acts, hl.klen⟩, hc⟩, hd, by rw [jF] at hs ⊢; exact hs⟩
theorem Oz {x y : ByteArray} (h : bP x y = false) : bP y x = false := by
 cases e : bP y x
 ·rfl
 ·rw [Sj e, fR] at h; cases h
theorem Kz.app {l : List aN} (h : Kz l) {v : aN} (hv : ∀ b, b ∈ l → bP v.Key nB = false → bP v.Key b.Key = false) : Kz (l ++ [v]) := by
 intro i k a b hki ha hb hn
 have hil := (List.getElem?_eq_some_iff.1 ha).1
 rw [List.length_append, List.length_singleton] at hil
 rw [List.getElem?_append_left (by omega)] at hb
 by_cases hi : i < l.length
 ·rw [List.getElem?_append_left hi] at ha
  exact h i k a b hki ha hb hn
 ·rw [List.getElem?_append_right (by omega), show i - l.length = 0 by omega] at ha
  simp only [List.getElem?_cons_zero, Option.some.injEq] at ha
  subst ha
  exact hv b (List.mem_of_getElem? hb) hn
theorem Hx (l : List aN) (key : ByteArray) (j : Bool → Option (aN × aW)) (p1 : Int) (y14 y15 : Int × aW) (v42 : Int) (v51 : List Int) (v52 v4 : Int) (y5 : (List bJ) × aW) (v13 : List cS) (y47 : aN × aW) (hl : l.length ≤ 4) {Q : aN × aW → Prop} (hj : ∀ b, (b = true ∨ ∀ x, x ∈ l → bP key nB = false → bP key x.Key = false) → jP (j b) Q) : ∀ (k n i : Nat) (b : Bool), i + k = l.length → k < n → (b = true ∨ ∀ (q : Nat) x, q < i → l[q]? = some x → bP key nB = false → bP key x.Key = false) → jP (mR l key j p1 y14 y15 v42 v51 v52 v4 y5 v13 y47 n b (i : Int)) Q
 | k, 0, i, b, _, h, _ => by omega
 | 0, n + 1, i, b, hi, hn, hb => by
  rw [mR]
  refine bO (fun hc => by simp only [decide_eq_true_eq] at hc; omega) fun _ => hj b ?_
  rcases hb with hb | hb
  ·exact .inl hb
  ·refine .inr fun x hx => ?_
   obtain ⟨q, hq⟩ := List.getElem?_of_mem hx
   exact hb q x (by have := (List.getElem?_eq_some_iff.1 hq).1; omega) hq
 | k + 1, n + 1, i, b, hi, hn, hb => by
  have hw : w6 ((i : Int) + 1) = ((i + 1 : Nat) : Int) := by rw [wS (by omega) (by omega)]; omega
  rw [mR, hw]
  refine bO (fun _ => ?_) fun hc => by simp only [decide_eq_false_iff_not] at hc; omega
  have ae : i < l.length := by omega
  have hg : jP (gd [(!b), (!(bP key nB))] (idx l (i : Int))) fun x => b = false → bP key nB = false → x = l[i] := by
   rw [dR ae]
   cases b <;> cases hq : bP key nB
   ·exact ⟨l[i], by simp [gd], fun _ _ => rfl⟩
   ·exact ⟨default, by simp [gd], fun _ h => by cases h⟩
   ·exact ⟨default, by simp [gd], fun h => by cases h⟩
   ·exact ⟨default, by simp [gd], fun h => by cases h⟩
  refine aK hg fun x hx => ?_
  refine Hx l key j p1 y14 y15 v42 v51 v52 v4 y5 v13 y47 hl hj k n (i + 1) _ (by omega) (by omega) ?_
  cases hbb : b
  ·rcases hb with hb | hb
   ·rw [hbb] at hb; cases hb
   ·cases hq : bP key nB
    ·have hx := hx hbb hq
     subst hx
     cases he : bP l[i].Key key
     ·refine .inr fun q x hqi hx' hn' => ?_
      by_cases hqi2 : q < i
      ·exact hb q x hqi2 hx' hq
      ·obtain rfl : q = i := by omega
       rw [List.getElem?_eq_getElem ae] at hx'
       obtain rfl := Option.some.inj hx'
       exact Oz he
     ·exact .inl rfl
    ·refine .inr fun q x hqi hx' hn' => ?_
     cases hn'
  ·exact .inl rfl
theorem Lq (y14 : Int × aW) (self : aW → Int → Option (aN × aW)) (d : Nat) (hd : d ≤ 3) (y15 : Int × aW) (v4 : Int) (y5 : (List bJ) × aW) (v13 : List cS) (j : List aN → List Int → Int → Option (aN × aW)) {Q : aN × aW → Prop} (h14 : y14.1 ≤ 4)
  (hs : ∀ p, bR p → jP (self p (d : Int)) fun y => VD (d + 1) y.1 ∧ y.1.Key = nB ∧ bR y.2) (hj : ∀ l L A, bR ⟨L, A⟩ → l.length ≤ 4 → Kz l → (∀ v, v ∈ l → VD (d + 1) v) → jP (j l L A) Q) : ∀ (k n : Nat) (q : Int) (L : List Int) (A : Int) (l : List aN), q + k = 4 → 0 ≤ q → k + 20 < n → bR ⟨L, A⟩ → (l.length : Int) ≤ q → Kz l → (∀ v, v ∈ l → VD (d + 1) v) → jP (mY y14 self ((d + 1 : Nat) : Int) y15 v4 y5 v13 j n q L A l) Q
 | k, 0, q, L, A, l, _, _, h, _, _, _, _ => by omega
 | 0, n + 1, q, L, A, l, h1, h0, h2, h, h3, h4, h5 => by
  rw [mY]
  exact bO (fun hc => by simp only [decide_eq_true_eq] at hc; omega) fun _ => hj l L A h (by omega) h4 h5
 | k + 1, n + 1, q, L, A, l, h1, h0, h2, h, h3, h4, h5 => by
  have hw : w6 (q + 1) = q + 1 := wS (by omega) (by omega)
  have ao : w6 (((d + 1 : Nat) : Int) - 1) = (d : Int) := by rw [wS (by omega) (by omega)]; omega
  rw [mY, hw, ao]
  refine bO (fun _ => ?_) fun _ => hj l L A h (by omega) h4 h5
  refine cA (fun L A (l2 : List aN) => bR ⟨L, A⟩ ∧ (l2.length : Int) ≤ q + 1 ∧ Kz l2 ∧ ∀ v, v ∈ l2 → VD (d + 1) v) (fun L A l2 ⟨a, b, c, e⟩ => Lq y14 self d hd y15 v4 y5 v13 j h14 hs hj k n (q + 1) L A l2 (by omega) (by omega) (by omega) a b c e) fun j46 k46 => ?_
  refine aK (hs _ h) fun y47 ⟨v1, v2, c⟩ => ?_
  refine cA (fun L A key => bR ⟨L, A⟩ ∧ KOk key) (fun L2 A2 key ⟨a, b⟩ => ?_) fun j48 k48 => ?_
  ·refine sH (fun b => b = true ∨ ∀ x, x ∈ l → bP key nB = false → bP key x.Key = false) (fun bb hb => ?_) fun j54 k54 => ?_
   ·refine bO (fun hc => ?_) fun _ => k46 _ _ _ ⟨a, by omega, h4, h5⟩
    refine aK (dK (by simp; omega) (by decide)) fun r hr => ?_
    subst hr
    have hb : ∀ x, x ∈ l → bP key nB = false → bP key x.Key = false := by
     rcases hb with hb | hb
     ·rw [hb] at hc; cases hc
     ·exact hb
    refine k46 _ _ _ ⟨a, by simp; omega, h4.app (fun x hx => hb x hx), fun v hv => ?_⟩
    rcases List.mem_append.1 hv with hv | hv
    ·exact h5 v hv
    ·simp only [List.mem_singleton] at hv
     subst hv
     exact v1.rekey key b
   ·exact Hx l key j54 _ y14 y15 q L2 A2 v4 y5 v13 y47 (by omega) k54 l.length n 0 false (by omega) (by omega) (.inr fun q x h => by omega)
  ·refine aK (Vk n (by decide) c) fun y c => bO (fun _ => ?_) fun _ => k48 _ _ _ ⟨c, by rw [v2]; exact Uz⟩
   exact aK (cO n c (by decide)) fun z ⟨za, zb, zc⟩ => k48 _ _ _ ⟨zc, key_ok z.1 za (zb (by decide))⟩
theorem Zj {kind : Int} {at_ : List bJ} {ac : List cS} {l : List aN} (hk : 1 ≤ kind ∧ kind ≤ 13) (ha : AL 15 at_) (h1 : ac.length ≤ 1) (h2 : ∀ a, a ∈ ac → EOk a) (h3 : l.length ≤ 4) : LocW 4 (aN.mk kind nB at_ ac l) :=
 ⟨hk, Uz, by have := ha.len; show at_.length ≤ 24; omega, ha.ok, ha.sort, h1, h2, h3⟩
theorem Pk : ∀ (d : Nat), d ≤ 3 → ∀ (n : Nat) (p : aW), d + 100 ≤ n → bR p → jP (pR n p (d : Int)) fun y => VD (d + 1) y.1 ∧ y.1.Key = nB ∧ bR y.2 := by
 intro d
 induction d with
 | zero => ?_
 | succ d ih => ?_
 all_goals
  intro hd n p hn h
  obtain ⟨n, rfl⟩ := nS n (by omega)
  rw [pR, qJ]
  refine aK (cO n h (by decide)) fun y ⟨a, b, c⟩ => aK (mG a (b (by decide))) fun e he => ?_
  have hek : 1 ≤ e ∧ e ≤ 13 := by
   simp only [List.mem_cons, List.not_mem_nil, or_false] at he
   omega
  refine sH (fun v4 => 1 ≤ v4 ∧ v4 ≤ 13) (fun v4 hv4 => ?_) fun j k => bO (fun _ => k 1 (by decide)) fun _ => k e hek
  refine aK (Kx n (by omega) v4 c) fun y5 ⟨al, c5⟩ => ?_
  refine cA (fun L A (ac : List cS) => bR ⟨L, A⟩ ∧ ac.length ≤ 1 ∧ ∀ a, a ∈ ac → EOk a) (fun L A ac ⟨s1, s2, s3⟩ => ?_) fun j k => ?_
  rotate_left
  ·refine aK (cO n c5 (by decide)) fun z ⟨_, _, zc⟩ => bO (fun _ => ?_) fun _ => k _ _ _ ⟨zc, by simp, fun a ha => nomatch ha⟩
   refine aK (Xo n (by omega) zc) fun w ⟨wv, wc⟩ => k _ _ _ ⟨wc, by simp, fun a ha => ?_⟩
   simp only [List.mem_singleton] at ha
   subst ha
   refine ⟨vO (by kernel_rfl), vO (by kernel_rfl), (by decide : (⟨#[47]⟩ : ByteArray).size ≤ 400), by simp, fun x hx => ?_⟩
   simp only [List.mem_singleton] at hx
   subst hx
   exact wv
 ·exact bO (fun _ => bZ ⟨VD.of (Zj hv4 al s2 s3 (by simp)) (fun i k a b _ ha => by simp at ha) (fun k hk => (nomatch hk)), rfl, s1⟩) fun hc => by simp at hc
 ·refine bO (fun hc => by simp at hc; omega) fun _ => ?_
  refine aK (cO n s1 (by decide)) fun y14 ⟨_, b14, c14⟩ => aK (cO n c14 (by decide)) fun y15 ⟨_, _, c15⟩ => ?_
  have b14 := b14 (by decide)
  refine cA (fun (l : List aN) L A => bR ⟨L, A⟩ ∧ l.length ≤ 4 ∧ Kz l ∧ ∀ v, v ∈ l → VD (d + 1) v) (fun l L A ⟨q1, q2, q3, q4⟩ => bZ ⟨VD.of (Zj hv4 al s2 s3 q2) q3 q4, rfl, q1⟩) fun j k => ?_
  exact Lq y14 (fun a0 a1 => pR n a0 a1) d (by omega) y15 v4 y5 ac j (by omega) (fun p hp => ih (by omega) n p (by omega) hp) (fun l L A a b c e => k l L A ⟨a, b, c, e⟩) 4 n 0 _ _ [] (by omega) (by omega) (by omega) c15 (by simp) (fun i k a b _ ha => by simp at ha) (fun v hv => nomatch hv)
theorem Xv (n : Nat) (hn : 14500 ≤ n) {p : aW} (h : bR p) : jP (yF n p 3) fun y => VD 4 y.1 ∧ bR y.2 := by
 unfold yF
 refine aK (Pk 3 (by decide) n p (by omega) h) fun y ⟨a, b, c⟩ => ?_
 have hf := a.vg.fuel4
 rw [Ee a.vg n (by omega)]
 refine aK (P := fun e => e = 0) (bZ rfl) fun e he => ?_
 subst he
 exact bO (fun hc => by simp at hc) fun _ => bZ ⟨a, c⟩
end Go.Proofs.YtojkihhnioeggaaGreatDoor.S
