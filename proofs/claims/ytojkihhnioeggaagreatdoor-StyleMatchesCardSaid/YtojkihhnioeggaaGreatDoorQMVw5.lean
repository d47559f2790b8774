import Derived.Test.YtojkihhnioeggaaGreatDoorQMVw4
import Derived.WalkKit
import Derived.WalkSpells
import Derived.WalkLawsBesides
import Derived.Deep.QuietTactic
import Derived.BigQuiet
import Derived.BigRegion
import Derived.Lib.Hide
import Derived.Deep.RegionWith
set_option linter.unusedSimpArgs false
set_option linter.unusedVariables false
set_option linter.unusedSimpArgs false
set_option linter.unusedVariables false
namespace Go.Proofs.YtojkihhnioeggaaGreatDoor.S
open Go Go.Bm
theorem Np : ∀ (l : List Int) (s : ByteArray), (l.foldl (fun r n => r.push (UInt8.ofNat n.toNat)) s).data.toList = s.data.toList ++ l.map fun n => UInt8.ofNat n.toNat
 | [], s => by simp
 | n :: l, s => by
  rw [List.foldl_cons, Np l, List.map_cons]
  simp
theorem tV (l : List Int) : (cX l).data.toList = l.map fun n => UInt8.ofNat n.toNat := by
 unfold cX
 rw [Np]
 rfl
theorem Pz (l : List Int) (hl : l.length ≤ 100) (h : ∀ x, x ∈ l → 0 ≤ x ∧ x < 128) : Ul (cX l) := by
 have hs : (cX l).size = l.length := by
  show (cX l).data.size = _
  have := congrArg List.length (tV l)
  simpa using this
 refine kP (by omega) ?_
 rw [tV]
 have := Lib.validD_ascii (l.map fun n => UInt8.ofNat n.toNat).length (l.map fun n => UInt8.ofNat n.toNat) (fun b hb => by
  rw [List.take_length] at hb
  obtain ⟨x, hx, rfl⟩ := List.mem_map.1 hb
  obtain ⟨h0, h1⟩ := h x hx
  rw [UInt8.toNat_ofNat']
  omega)
 rw [this, List.drop_length]
 rfl
theorem He (y1 : Int × aP) (j : List Int → List Int → Int → Option (ByteArray × aP)) {Q : ByteArray × aP → Prop} (hj : ∀ l L A, bM ⟨L, A⟩ → l.length ≤ 4 → (∀ x, x ∈ l → 0 ≤ x ∧ x < 128) → lJ (j l L A) Q) : ∀ (k n : Nat) (q : Int) (L : List Int) (A : Int) (l : List Int), q + k = y1.1 → 0 ≤ q → k < n → bM ⟨L, A⟩ → (l.length : Int) = y1.1 → y1.1 ≤ 4 → (∀ x, x ∈ l → 0 ≤ x ∧ x < 128) → lJ (kQ y1 j n q L A l) Q
 | k, 0, q, L, A, l, _, _, h, _, _, _, _ => by omega
 | 0, n + 1, q, L, A, l, h1, h0, h2, h, h3, h4, hl => by
  rw [kQ]
  exact bJ (fun hc => by simp only [decide_eq_true_eq] at hc; omega) fun _ => hj l L A h (by omega) hl
 | k + 1, n + 1, q, L, A, l, h1, h0, h2, h, h3, h4, hl => by
  have hw : IntKind.wrap .i64 (q + 1) = q + 1 := Go.Bm.bB (by omega) (by omega)
  rw [kQ, hw]
  refine bJ (fun _ => ?_) fun hc => by simp only [decide_eq_false_iff_not] at hc; omega
  refine aN (cM n h (by decide)) fun y ⟨a, b, c⟩ => ?_
  have b := b (by decide)
  have hin : oE q l.length = some q.toNat := by unfold oE; rw [if_pos ⟨by omega, by omega⟩]
  rw [hin]
  refine aN (P := fun k => k = q.toNat) (bW rfl) fun k12 hk => ?_
  subst hk
  refine aN (Wl (by omega)) fun e _ => ?_
  have hwx : IntKind.wrap .u8 (IntKind.wrap .i64 (97 + y.1)) = 97 + y.1 := by
   have : y.1 = 0 ∨ y.1 = 1 ∨ y.1 = 2 ∨ y.1 = 3 := by omega
   rcases this with e | e | e | e <;> rw [e] <;> decide
  refine He y1 j hj k n (q + 1) _ _ _ (by omega) (by omega) (by omega) c (by simpa using h3) h4 fun x hx => ?_
  rcases List.mem_or_eq_of_mem_set hx with hx | rfl
  ·exact hl x hx
  ·rw [hwx]; omega
theorem Qq (n : Nat) (hn : 20 ≤ n) {p : aP} (h : bM p) : lJ (qY n p 4) fun y => Ul y.1 ∧ bM y.2 := by
 unfold qY
 have e5 : IntKind.wrap .i64 (4 + 1) = 5 := by decide
 rw [e5]
 refine aN (cM n h (by decide)) fun y ⟨a, b, c⟩ => ?_
 have b := b (by decide)
 have hm : Zs 1 y.1 = some y.1.toNat := by
  unfold Zs
  rw [if_pos ⟨a, by omega, by unfold maxLen; omega⟩]
 rw [hm]
 refine aN (P := fun k => k = y.1.toNat) (bW rfl) fun k hk => ?_
 subst hk
 refine bN (fun l L A => bM ⟨L, A⟩ ∧ l.length ≤ 4 ∧ ∀ x, x ∈ l → 0 ≤ x ∧ x < 128) (fun l L A ⟨a, b, c⟩ => bW ⟨Pz l (by omega) c, a⟩) fun j k => ?_
 refine He y j (fun l L A a b c => k l L A ⟨a, b, c⟩) y.1.toNat n 0 _ _ _ (by omega) (by omega) (by omega) c (by simp; omega) (by omega) fun x hx => ?_
 have := (List.mem_replicate.1 hx).2
 omega
theorem Pj (n : Nat) (hn : 30 ≤ n) {p : aP} (h : bM p) : lJ (nM n p 0) fun y => Lj y.1 ∧ bM y.2 := by
 obtain ⟨n, rfl⟩ : ∃ m, n = m + 1 := ⟨n - 1, by omega⟩
 rw [nM, nE]
 refine Ms (fun L A => bM ⟨L, A⟩) (fun L A c => ?_) fun j1 k1 => ?_
 ·refine aN (cM n c (by decide)) fun y ⟨a, b, c⟩ => aN (lW a (b (by decide))) fun e he => bW ⟨?_, c⟩
  simp only [List.mem_cons, List.not_mem_nil, or_false] at he
  exact vE e (by omega) (by omega)
 ·refine aN (cM n h (by decide)) fun y ⟨a, b, c⟩ => bJ (fun _ => ?_) fun _ => ?_
  ·exact aN (cM n c (by decide)) fun z ⟨za, zb, zc⟩ => bW ⟨uP z.1 (by have := zb (by decide); omega), zc⟩
  ·refine qB (fun _ => True) (fun v5 _ => ?_) fun j4 k4 => bJ (fun _ => k4 _ trivial) fun _ => k4 _ trivial
   refine bJ (fun _ => aN (Qq n (by omega) c) fun z ⟨zt, zc⟩ => bW ⟨rN z.1 zt, zc⟩) fun _ => ?_
   refine bJ (fun _ => ?_) fun _ => k1 _ _ c
   exact bJ (fun hc => by simp at hc) fun _ => k1 _ _ c
theorem qX.rekey {d : Nat} {v : aL} (h : qX d v) (key : ByteArray) (hk : KOk key) : qX d (aL.mk v.Kind key v.Attrs v.Actions v.Kids) := by
 match d, h with
 | d + 1, ⟨hl, hc⟩ => exact ⟨⟨hl.kind, hk, hl.alen, hl.attrs, hl.sort, hl.elen, hl.acts, hl.klen, hl.keys⟩, hc⟩
def Kz (l : List aL) : Prop := ∀ (i k : Nat) (a b : aL), k < i → l[i]? = some a → l[k]? = some b → cG a.Key (⟨#[]⟩ : ByteArray) = false → cG a.Key b.Key = false
theorem Ky {x y : ByteArray} (h : cG x y = false) : cG y x = false := by
 cases e : cG y x
 ·rfl
 ·rw [Rt e, gM] at h; cases h
theorem Kz.app {l : List aL} (h : Kz l) {v : aL} (hv : ∀ b, b ∈ l → cG v.Key (⟨#[]⟩ : ByteArray) = false → cG v.Key b.Key = false) : Kz (l ++ [v]) := by
 intro i k a b hki ha hb hn
 have hil := (List.getElem?_eq_some_iff.1 ha).1
 rw [List.length_append, List.length_singleton] at hil
 rw [List.getElem?_append_left (by omega)] at hb
 by_cases hi : i < l.length
 ·rw [List.getElem?_append_left hi] at ha
  exact h i k a b hki ha hb hn
 ·rw [List.getElem?_append_right (by omega), show i - l.length = 0 by omega] at ha
  simp only [List.getElem?_cons_zero, Option.some.injEq] at ha
  subst ha
  exact hv b (List.mem_of_getElem? hb) hn
theorem Dk (l : List aL) (key : ByteArray) (j : Bool → Option (aL × aP)) (p1 : Int) (y14 y15 : Int × aP) (v42 : Int) (v51 : List Int) (v52 v4 : Int) (y5 : (List aZ) × aP) (v13 : List cE) (y47 : aL × aP) (hl : l.length ≤ 4) {Q : aL × aP → Prop} (hj : ∀ b, (b = true ∨ ∀ x, x ∈ l → cG key (⟨#[]⟩ : ByteArray) = false → cG key x.Key = false) → lJ (j b) Q) : ∀ (k n i : Nat) (b : Bool), i + k = l.length → k < n → (b = true ∨ ∀ (q : Nat) x, q < i → l[q]? = some x → cG key (⟨#[]⟩ : ByteArray) = false → cG key x.Key = false) → lJ (kU l key j p1 y14 y15 v42 v51 v52 v4 y5 v13 y47 n b (i : Int)) Q
 | k, 0, i, b, _, h, _ => by omega
 | 0, n + 1, i, b, hi, hn, hb => by
  rw [kU]
  refine bJ (fun hc => by simp only [decide_eq_true_eq] at hc; omega) fun _ => hj b ?_
  rcases hb with hb | hb
  ·exact .inl hb
  ·refine .inr fun x hx => ?_
   obtain ⟨q, hq⟩ := List.getElem?_of_mem hx
   exact hb q x (by have := (List.getElem?_eq_some_iff.1 hq).1; omega) hq
 | k + 1, n + 1, i, b, hi, hn, hb => by
  have hw : IntKind.wrap .i64 ((i : Int) + 1) = ((i + 1 : Nat) : Int) := by rw [Go.Bm.bB (by omega) (by omega)]; omega
  rw [kU, hw]
  refine bJ (fun _ => ?_) fun hc => by simp only [decide_eq_false_iff_not] at hc; omega
  have hlt : i < l.length := by omega
  have hg : lJ (gd [(!b), (!(cG key (⟨#[]⟩ : ByteArray)))] (idx l (i : Int))) fun x => b = false → cG key (⟨#[]⟩ : ByteArray) = false → x = l[i] := by
   rw [hZ hlt]
   cases b <;> cases hq : cG key (⟨#[]⟩ : ByteArray)
   ·exact ⟨l[i], by simp [gd], fun _ _ => rfl⟩
   ·exact ⟨default, by simp [gd], fun _ h => by cases h⟩
   ·exact ⟨default, by simp [gd], fun h => by cases h⟩
   ·exact ⟨default, by simp [gd], fun h => by cases h⟩
  refine aN hg fun x hx => ?_
  refine Dk l key j p1 y14 y15 v42 v51 v52 v4 y5 v13 y47 hl hj k n (i + 1) _ (by omega) (by omega) ?_
  cases hbb : b
  ·rcases hb with hb | hb
   ·rw [hbb] at hb; cases hb
   ·cases hq : cG key (⟨#[]⟩ : ByteArray)
    ·have hx := hx hbb hq
     subst hx
     cases he : cG l[i].Key key
     ·refine .inr fun q x hqi hx' hn' => ?_
      by_cases hqi2 : q < i
      ·exact hb q x hqi2 hx' hq
      ·obtain rfl : q = i := by omega
       rw [List.getElem?_eq_getElem hlt] at hx'
       obtain rfl := Option.some.inj hx'
       exact Ky he
     ·exact .inl rfl
    ·refine .inr fun q x hqi hx' hn' => ?_
     cases hn'
  ·exact .inl rfl
theorem Gg (y14 : Int × aP) (self : aP → Int → Option (aL × aP)) (d : Nat) (hd : d ≤ 3) (y15 : Int × aP) (v4 : Int) (y5 : (List aZ) × aP) (v13 : List cE) (j : List aL → List Int → Int → Option (aL × aP)) {Q : aL × aP → Prop} (h14 : y14.1 ≤ 4)
  (hs : ∀ p, bM p → lJ (self p (d : Int)) fun y => qX (d + 1) y.1 ∧ y.1.Key = (⟨#[]⟩ : ByteArray) ∧ bM y.2) (hj : ∀ l L A, bM ⟨L, A⟩ → l.length ≤ 4 → Kz l → (∀ v, v ∈ l → qX (d + 1) v) → lJ (j l L A) Q) : ∀ (k n : Nat) (q : Int) (L : List Int) (A : Int) (l : List aL), q + k = 4 → 0 ≤ q → k + 20 < n → bM ⟨L, A⟩ → (l.length : Int) ≤ q → Kz l → (∀ v, v ∈ l → qX (d + 1) v) → lJ (kN y14 self ((d + 1 : Nat) : Int) y15 v4 y5 v13 j n q L A l) Q
 | k, 0, q, L, A, l, _, _, h, _, _, _, _ => by omega
 | 0, n + 1, q, L, A, l, h1, h0, h2, h, h3, h4, h5 => by
  rw [kN]
  exact bJ (fun hc => by simp only [decide_eq_true_eq] at hc; omega) fun _ => hj l L A h (by omega) h4 h5
 | k + 1, n + 1, q, L, A, l, h1, h0, h2, h, h3, h4, h5 => by
  have hw : IntKind.wrap .i64 (q + 1) = q + 1 := Go.Bm.bB (by omega) (by omega)
  have hw2 : IntKind.wrap .i64 (((d + 1 : Nat) : Int) - 1) = (d : Int) := by rw [Go.Bm.bB (by omega) (by omega)]; omega
  rw [kN, hw, hw2]
  refine bJ (fun _ => ?_) fun _ => hj l L A h (by omega) h4 h5
  refine bN (fun L A (l2 : List aL) => bM ⟨L, A⟩ ∧ (l2.length : Int) ≤ q + 1 ∧ Kz l2 ∧ ∀ v, v ∈ l2 → qX (d + 1) v) (fun L A l2 ⟨a, b, c, e⟩ => Gg y14 self d hd y15 v4 y5 v13 j h14 hs hj k n (q + 1) L A l2 (by omega) (by omega) (by omega) a b c e) fun j46 k46 => ?_
  refine aN (hs _ h) fun y47 ⟨v1, v2, c⟩ => ?_
  refine bN (fun L A key => bM ⟨L, A⟩ ∧ KOk key) (fun L2 A2 key ⟨a, b⟩ => ?_) fun j48 k48 => ?_
  ·refine qB (fun b => b = true ∨ ∀ x, x ∈ l → cG key (⟨#[]⟩ : ByteArray) = false → cG key x.Key = false) (fun bb hb => ?_) fun j54 k54 => ?_
   ·refine bJ (fun hc => ?_) fun _ => k46 _ _ _ ⟨a, by omega, h4, h5⟩
    refine aN (dY (by simp; omega) (by decide)) fun r hr => ?_
    subst hr
    have hb : ∀ x, x ∈ l → cG key (⟨#[]⟩ : ByteArray) = false → cG key x.Key = false := by
     rcases hb with hb | hb
     ·rw [hb] at hc; cases hc
     ·exact hb
    refine k46 _ _ _ ⟨a, by simp; omega, h4.app (fun x hx => hb x hx), fun v hv => ?_⟩
    rcases List.mem_append.1 hv with hv | hv
    ·exact h5 v hv
    ·simp only [List.mem_singleton] at hv
     subst hv
     exact v1.rekey key b
   ·exact Dk l key j54 _ y14 y15 q L2 A2 v4 y5 v13 y47 (by omega) k54 l.length n 0 false (by omega) (by omega) (.inr fun q x h => by omega)
  ·refine aN (Qy n (by decide) c) fun y c => bJ (fun _ => ?_) fun _ => k48 _ _ _ ⟨c, by rw [v2]; exact Nk⟩
   exact aN (cM n c (by decide)) fun z ⟨za, zb, zc⟩ => k48 _ _ _ ⟨zc, Yz z.1 za (zb (by decide))⟩
theorem Rh {kind : Int} {at_ : List aZ} {ac : List cE} {l : List aL} (hk : 1 ≤ kind ∧ kind ≤ 13) (ha : AL 15 at_) (h1 : ac.length ≤ 1) (h2 : ∀ a, a ∈ ac → EOk a) (h3 : l.length ≤ 4) (h4 : Kz l) : Zj (aL.mk kind (⟨#[]⟩ : ByteArray) at_ ac l) :=
 ⟨hk, Nk, by have := ha.len; show at_.length ≤ 24; omega, ha.ok, ha.sort, h1, h2, h3, h4⟩
theorem Qt : ∀ (d : Nat), d ≤ 3 → ∀ (n : Nat) (p : aP), d + 100 ≤ n → bM p → lJ (nY n p (d : Int)) fun y => qX (d + 1) y.1 ∧ y.1.Key = (⟨#[]⟩ : ByteArray) ∧ bM y.2 := by
 intro d
 induction d with
 | zero => ?_
 | succ d ih => ?_
 all_goals
  intro hd n p hn h
  obtain ⟨n, rfl⟩ : ∃ m, n = m + 1 := ⟨n - 1, by omega⟩
  rw [nY, nT]
  refine aN (cM n h (by decide)) fun y ⟨a, b, c⟩ => aN (lW a (b (by decide))) fun e he => ?_
  have hek : 1 ≤ e ∧ e ≤ 13 := by
   simp only [List.mem_cons, List.not_mem_nil, or_false] at he
   omega
  refine qB (fun v4 => 1 ≤ v4 ∧ v4 ≤ 13) (fun v4 hv4 => ?_) fun j k => bJ (fun _ => k 1 (by decide)) fun _ => k e hek
  refine aN (Px n (by omega) v4 c) fun y5 ⟨al, c5⟩ => ?_
  refine bN (fun L A (ac : List cE) => bM ⟨L, A⟩ ∧ ac.length ≤ 1 ∧ ∀ a, a ∈ ac → EOk a) (fun L A ac ⟨s1, s2, s3⟩ => ?_) fun j k => ?_
  rotate_left
  ·refine aN (cM n c5 (by decide)) fun z ⟨_, _, zc⟩ => bJ (fun _ => ?_) fun _ => k _ _ _ ⟨zc, by simp, fun a ha => nomatch ha⟩
   refine aN (Pj n (by omega) zc) fun w ⟨wv, wc⟩ => k _ _ _ ⟨wc, by simp, fun a ha => ?_⟩
   simp only [List.mem_singleton] at ha
   subst ha
   refine ⟨tW (by kernel_rfl), tW (by kernel_rfl), (by decide : (⟨#[47]⟩ : ByteArray).size ≤ 400), by simp, fun x hx => ?_⟩
   simp only [List.mem_singleton] at hx
   subst hx
   exact wv
 ·exact bJ (fun _ => bW ⟨⟨Rh hv4 al s2 s3 (by simp) (fun i k a b _ ha => by simp at ha), fun k hk => nomatch hk⟩, rfl, s1⟩) fun hc => by simp at hc
 ·refine bJ (fun hc => by simp at hc; omega) fun _ => ?_
  refine aN (cM n s1 (by decide)) fun y14 ⟨_, b14, c14⟩ => aN (cM n c14 (by decide)) fun y15 ⟨_, _, c15⟩ => ?_
  have b14 := b14 (by decide)
  refine bN (fun (l : List aL) L A => bM ⟨L, A⟩ ∧ l.length ≤ 4 ∧ Kz l ∧ ∀ v, v ∈ l → qX (d + 1) v) (fun l L A ⟨q1, q2, q3, q4⟩ => bW ⟨⟨Rh hv4 al s2 s3 q2 q3, q4⟩, rfl, q1⟩) fun j k => ?_
  exact Gg y14 (fun a0 a1 => nY n a0 a1) d (by omega) y15 v4 y5 ac j (by omega) (fun p hp => ih (by omega) n p (by omega) hp) (fun l L A a b c e => k l L A ⟨a, b, c, e⟩) 4 n 0 _ _ [] (by omega) (by omega) (by omega) c15 (by simp) (fun i k a b _ ha => by simp at ha) (fun v hv => nomatch hv)
theorem Tq (n : Nat) (hn : 9000 ≤ n) {p : aP} (h : bM p) : lJ (tP n p 3) fun y => qX 4 y.1 ∧ bM y.2 := by
 unfold tP
 refine aN (Qt 3 (by decide) n p (by omega) h) fun y ⟨a, b, c⟩ => ?_
 have hf := a.fuel4
 rw [zR a n (by omega)]
 refine aN (P := fun e => e = 0) (bW rfl) fun e he => ?_
 subst he
 exact bJ (fun hc => by simp at hc) fun _ => bW ⟨a, c⟩
theorem Ug (n : Nat) (hn : 9000 ≤ n) {p : aP} (h : bM p) : lJ (uI n p 3) fun y => (∃ v, qX 4 v ∧ cS y.1 v) ∧ bM y.2 := by
 unfold uI
 refine aN (Tq n hn h) fun y ⟨a, c⟩ => aN (zH n c (by decide) (by decide) (by decide)) fun z ⟨z1, z2, zc⟩ => ?_
 have hf := a.fuel4
 obtain ⟨t, ht, hT⟩ := Uy a n z.1 (by omega) z1 (by omega)
 rw [ht]
 refine aN (P := fun w => w = (t, 0)) (bW rfl) fun w hw => ?_
 subst hw
 exact bW ⟨⟨y.1, a, hT⟩, zc⟩
end Go.Proofs.YtojkihhnioeggaaGreatDoor.S
