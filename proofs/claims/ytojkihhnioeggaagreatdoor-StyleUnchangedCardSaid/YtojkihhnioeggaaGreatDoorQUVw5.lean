import Derived.Test.YtojkihhnioeggaaGreatDoorQUVw4
import Derived.WalkKit
import Derived.WalkSpells
import Derived.WalkLawsBesides
import Derived.Deep.QuietTactic
import Derived.BigQuiet
import Derived.BigRegion
import Derived.Lib.Hide
import Derived.Deep.RegionWith
set_option linter.unusedSimpArgs false
set_option linter.unusedVariables false
set_option linter.unusedSimpArgs false
set_option linter.unusedVariables false
namespace Go.Proofs.YtojkihhnioeggaaGreatDoor.S
open Go Go.Bm
theorem Sk : ∀ (l : List Int) (s : ByteArray), (l.foldl (fun r n => r.push (UInt8.ofNat n.toNat)) s).data.toList = s.data.toList ++ l.map fun n => UInt8.ofNat n.toNat
 | [], s => by simp
 | n :: l, s => by
  rw [List.foldl_cons, Sk l, List.map_cons]
  simp
theorem uU (l : List Int) : (dG l).data.toList = l.map fun n => UInt8.ofNat n.toNat := by
 unfold dG
 rw [Sk]
 rfl
theorem Sz (l : List Int) (hl : l.length ≤ 100) (h : ∀ x, x ∈ l → 0 ≤ x ∧ x < 128) : Zg (dG l) := by
 have hs : (dG l).size = l.length := by
  show (dG l).data.size = _
  have := congrArg List.length (uU l)
  simpa using this
 refine lC (by omega) ?_
 rw [uU]
 have := Lib.validD_ascii (l.map fun n => UInt8.ofNat n.toNat).length (l.map fun n => UInt8.ofNat n.toNat) (fun b hb => by
  rw [List.take_length] at hb
  obtain ⟨x, hx, rfl⟩ := List.mem_map.1 hb
  obtain ⟨h0, h1⟩ := h x hx
  rw [UInt8.toNat_ofNat']
  omega)
 rw [this, List.drop_length]
 rfl
theorem Hr (y1 : Int × aN) (j : List Int → List Int → Int → Option (ByteArray × aN)) {Q : ByteArray × aN → Prop} (hj : ∀ l L A, bR ⟨L, A⟩ → l.length ≤ 4 → (∀ x, x ∈ l → 0 ≤ x ∧ x < 128) → kV (j l L A) Q) : ∀ (k n : Nat) (q : Int) (L : List Int) (A : Int) (l : List Int), q + k = y1.1 → 0 ≤ q → k < n → bR ⟨L, A⟩ → (l.length : Int) = y1.1 → y1.1 ≤ 4 → (∀ x, x ∈ l → 0 ≤ x ∧ x < 128) → kV (lK y1 j n q L A l) Q
 | k, 0, q, L, A, l, _, _, h, _, _, _, _ => by omega
 | 0, n + 1, q, L, A, l, h1, h0, h2, h, h3, h4, hl => by
  rw [lK]
  exact bN (fun hc => by simp only [decide_eq_true_eq] at hc; omega) fun _ => hj l L A h (by omega) hl
 | k + 1, n + 1, q, L, A, l, h1, h0, h2, h, h3, h4, hl => by
  have hw : IntKind.wrap .i64 (q + 1) = q + 1 := Go.Bm.aT (by omega) (by omega)
  rw [lK, hw]
  refine bN (fun _ => ?_) fun hc => by simp only [decide_eq_false_iff_not] at hc; omega
  refine aG (cV n h (by decide)) fun y ⟨a, b, c⟩ => ?_
  have b := b (by decide)
  have hin : uQ q l.length = some q.toNat := by unfold uQ; rw [if_pos ⟨by omega, by omega⟩]
  rw [hin]
  refine aG (P := fun k => k = q.toNat) (bX rfl) fun k12 hk => ?_
  subst hk
  refine aG (aAt (by omega)) fun e _ => ?_
  have hwx : IntKind.wrap .u8 (IntKind.wrap .i64 (97 + y.1)) = 97 + y.1 := by
   have : y.1 = 0 ∨ y.1 = 1 ∨ y.1 = 2 ∨ y.1 = 3 := by omega
   rcases this with e | e | e | e <;> rw [e] <;> decide
  refine Hr y1 j hj k n (q + 1) _ _ _ (by omega) (by omega) (by omega) c (by simpa using h3) h4 fun x hx => ?_
  rcases List.mem_or_eq_of_mem_set hx with hx | rfl
  ·exact hl x hx
  ·rw [hwx]; omega
theorem Xs (n : Nat) (hn : 20 ≤ n) {p : aN} (h : bR p) : kV (tC n p 4) fun y => Zg y.1 ∧ bR y.2 := by
 unfold tC
 have e5 : IntKind.wrap .i64 (4 + 1) = 5 := by decide
 rw [e5]
 refine aG (cV n h (by decide)) fun y ⟨a, b, c⟩ => ?_
 have b := b (by decide)
 have hm : mkO 1 y.1 = some y.1.toNat := by
  unfold mkO
  rw [if_pos ⟨a, by omega, by unfold maxLen; omega⟩]
 rw [hm]
 refine aG (P := fun k => k = y.1.toNat) (bX rfl) fun k hk => ?_
 subst hk
 refine bU (fun l L A => bR ⟨L, A⟩ ∧ l.length ≤ 4 ∧ ∀ x, x ∈ l → 0 ≤ x ∧ x < 128) (fun l L A ⟨a, b, c⟩ => bX ⟨Sz l (by omega) c, a⟩) fun j k => ?_
 refine Hr y j (fun l L A a b c => k l L A ⟨a, b, c⟩) y.1.toNat n 0 _ _ _ (by omega) (by omega) (by omega) c (by simp; omega) (by omega) fun x hx => ?_
 have := (List.mem_replicate.1 hx).2
 omega
theorem Tv (n : Nat) (hn : 30 ≤ n) {p : aN} (h : bR p) : kV (oA n p 0) fun y => Ol y.1 ∧ bR y.2 := by
 obtain ⟨n, rfl⟩ : ∃ m, n = m + 1 := ⟨n - 1, by omega⟩
 rw [oA, nM]
 refine Qq (fun L A => bR ⟨L, A⟩) (fun L A c => ?_) fun j1 k1 => ?_
 ·refine aG (cV n c (by decide)) fun y ⟨a, b, c⟩ => aG (lV a (b (by decide))) fun e he => bX ⟨?_, c⟩
  simp only [List.mem_cons, List.not_mem_nil, or_false] at he
  exact wE e (by omega) (by omega)
 ·refine aG (cV n h (by decide)) fun y ⟨a, b, c⟩ => bN (fun _ => ?_) fun _ => ?_
  ·exact aG (cV n c (by decide)) fun z ⟨za, zb, zc⟩ => bX ⟨uX z.1 (by have := zb (by decide); omega), zc⟩
  ·refine qC (fun _ => True) (fun v5 _ => ?_) fun j4 k4 => bN (fun _ => k4 _ trivial) fun _ => k4 _ trivial
   refine bN (fun _ => aG (Xs n (by omega) c) fun z ⟨zt, zc⟩ => bX ⟨tF z.1 zt, zc⟩) fun _ => ?_
   refine bN (fun _ => ?_) fun _ => k1 _ _ c
   exact bN (fun hc => by simp at hc) fun _ => k1 _ _ c
theorem nZ.rekey {d : Nat} {v : aJ} (h : nZ d v) (key : ByteArray) (hk : KOk key) : nZ d (aJ.mk v.Kind key v.Attrs v.Actions v.Kids) := by
 match d, h with
 | d + 1, ⟨hl, hc⟩ => exact ⟨⟨hl.kind, hk, hl.alen, hl.attrs, hl.sort, hl.elen, hl.acts, hl.klen, hl.keys⟩, hc⟩
def Kz (l : List aJ) : Prop := ∀ (i k : Nat) (a b : aJ), k < i → l[i]? = some a → l[k]? = some b → bV a.Key (⟨#[]⟩ : ByteArray) = false → bV a.Key b.Key = false
theorem Lj {x y : ByteArray} (h : bV x y = false) : bV y x = false := by
 cases e : bV y x
 ·rfl
 ·rw [Oz e, eY] at h; cases h
theorem Kz.app {l : List aJ} (h : Kz l) {v : aJ} (hv : ∀ b, b ∈ l → bV v.Key (⟨#[]⟩ : ByteArray) = false → bV v.Key b.Key = false) : Kz (l ++ [v]) := by
 intro i k a b hki ha hb hn
 have hil := (List.getElem?_eq_some_iff.1 ha).1
 rw [List.length_append, List.length_singleton] at hil
 rw [List.getElem?_append_left (by omega)] at hb
 by_cases hi : i < l.length
 ·rw [List.getElem?_append_left hi] at ha
  exact h i k a b hki ha hb hn
 ·rw [List.getElem?_append_right (by omega), show i - l.length = 0 by omega] at ha
  simp only [List.getElem?_cons_zero, Option.some.injEq] at ha
  subst ha
  exact hv b (List.mem_of_getElem? hb) hn
theorem Er (l : List aJ) (key : ByteArray) (j : Bool → Option (aJ × aN)) (p1 : Int) (y14 y15 : Int × aN) (v42 : Int) (v51 : List Int) (v52 v4 : Int) (y5 : (List bD) × aN) (v13 : List cU) (y47 : aJ × aN) (hl : l.length ≤ 4) {Q : aJ × aN → Prop} (hj : ∀ b, (b = true ∨ ∀ x, x ∈ l → bV key (⟨#[]⟩ : ByteArray) = false → bV key x.Key = false) → kV (j b) Q) : ∀ (k n i : Nat) (b : Bool), i + k = l.length → k < n → (b = true ∨ ∀ (q : Nat) x, q < i → l[q]? = some x → bV key (⟨#[]⟩ : ByteArray) = false → bV key x.Key = false) → kV (lD l key j p1 y14 y15 v42 v51 v52 v4 y5 v13 y47 n b (i : Int)) Q
 | k, 0, i, b, _, h, _ => by omega
 | 0, n + 1, i, b, hi, hn, hb => by
  rw [lD]
  refine bN (fun hc => by simp only [decide_eq_true_eq] at hc; omega) fun _ => hj b ?_
  rcases hb with hb | hb
  ·exact .inl hb
  ·refine .inr fun x hx => ?_
   obtain ⟨q, hq⟩ := List.getElem?_of_mem hx
   exact hb q x (by have := (List.getElem?_eq_some_iff.1 hq).1; omega) hq
 | k + 1, n + 1, i, b, hi, hn, hb => by
  have hw : IntKind.wrap .i64 ((i : Int) + 1) = ((i + 1 : Nat) : Int) := by rw [Go.Bm.aT (by omega) (by omega)]; omega
  rw [lD, hw]
  refine bN (fun _ => ?_) fun hc => by simp only [decide_eq_false_iff_not] at hc; omega
  have hlt : i < l.length := by omega
  have hg : kV (gd [(!b), (!(bV key (⟨#[]⟩ : ByteArray)))] (idx l (i : Int))) fun x => b = false → bV key (⟨#[]⟩ : ByteArray) = false → x = l[i] := by
   rw [dU hlt]
   cases b <;> cases hq : bV key (⟨#[]⟩ : ByteArray)
   ·exact ⟨l[i], by simp [gd], fun _ _ => rfl⟩
   ·exact ⟨default, by simp [gd], fun _ h => by cases h⟩
   ·exact ⟨default, by simp [gd], fun h => by cases h⟩
   ·exact ⟨default, by simp [gd], fun h => by cases h⟩
  refine aG hg fun x hx => ?_
  refine Er l key j p1 y14 y15 v42 v51 v52 v4 y5 v13 y47 hl hj k n (i + 1) _ (by omega) (by omega) ?_
  cases hbb : b
  ·rcases hb with hb | hb
   ·rw [hbb] at hb; cases hb
   ·cases hq : bV key (⟨#[]⟩ : ByteArray)
    ·have hx := hx hbb hq
     subst hx
     cases he : bV l[i].Key key
     ·refine .inr fun q x hqi hx' hn' => ?_
      by_cases hqi2 : q < i
      ·exact hb q x hqi2 hx' hq
      ·obtain rfl : q = i := by omega
       rw [List.getElem?_eq_getElem hlt] at hx'
       obtain rfl := Option.some.inj hx'
       exact Lj he
     ·exact .inl rfl
    ·refine .inr fun q x hqi hx' hn' => ?_
     cases hn'
  ·exact .inl rfl
theorem Ij (y14 : Int × aN) (self : aN → Int → Option (aJ × aN)) (d : Nat) (hd : d ≤ 3) (y15 : Int × aN) (v4 : Int) (y5 : (List bD) × aN) (v13 : List cU) (j : List aJ → List Int → Int → Option (aJ × aN)) {Q : aJ × aN → Prop} (h14 : y14.1 ≤ 4)
  (hs : ∀ p, bR p → kV (self p (d : Int)) fun y => nZ (d + 1) y.1 ∧ y.1.Key = (⟨#[]⟩ : ByteArray) ∧ bR y.2) (hj : ∀ l L A, bR ⟨L, A⟩ → l.length ≤ 4 → Kz l → (∀ v, v ∈ l → nZ (d + 1) v) → kV (j l L A) Q) : ∀ (k n : Nat) (q : Int) (L : List Int) (A : Int) (l : List aJ), q + k = 4 → 0 ≤ q → k + 20 < n → bR ⟨L, A⟩ → (l.length : Int) ≤ q → Kz l → (∀ v, v ∈ l → nZ (d + 1) v) → kV (lI y14 self ((d + 1 : Nat) : Int) y15 v4 y5 v13 j n q L A l) Q
 | k, 0, q, L, A, l, _, _, h, _, _, _, _ => by omega
 | 0, n + 1, q, L, A, l, h1, h0, h2, h, h3, h4, h5 => by
  rw [lI]
  exact bN (fun hc => by simp only [decide_eq_true_eq] at hc; omega) fun _ => hj l L A h (by omega) h4 h5
 | k + 1, n + 1, q, L, A, l, h1, h0, h2, h, h3, h4, h5 => by
  have hw : IntKind.wrap .i64 (q + 1) = q + 1 := Go.Bm.aT (by omega) (by omega)
  have hw2 : IntKind.wrap .i64 (((d + 1 : Nat) : Int) - 1) = (d : Int) := by rw [Go.Bm.aT (by omega) (by omega)]; omega
  rw [lI, hw, hw2]
  refine bN (fun _ => ?_) fun _ => hj l L A h (by omega) h4 h5
  refine bU (fun L A (l2 : List aJ) => bR ⟨L, A⟩ ∧ (l2.length : Int) ≤ q + 1 ∧ Kz l2 ∧ ∀ v, v ∈ l2 → nZ (d + 1) v) (fun L A l2 ⟨a, b, c, e⟩ => Ij y14 self d hd y15 v4 y5 v13 j h14 hs hj k n (q + 1) L A l2 (by omega) (by omega) (by omega) a b c e) fun j46 k46 => ?_
  refine aG (hs _ h) fun y47 ⟨v1, v2, c⟩ => ?_
  refine bU (fun L A key => bR ⟨L, A⟩ ∧ KOk key) (fun L2 A2 key ⟨a, b⟩ => ?_) fun j48 k48 => ?_
  ·refine qC (fun b => b = true ∨ ∀ x, x ∈ l → bV key (⟨#[]⟩ : ByteArray) = false → bV key x.Key = false) (fun bb hb => ?_) fun j54 k54 => ?_
   ·refine bN (fun hc => ?_) fun _ => k46 _ _ _ ⟨a, by omega, h4, h5⟩
    refine aG (dV (by simp; omega) (by decide)) fun r hr => ?_
    subst hr
    have hb : ∀ x, x ∈ l → bV key (⟨#[]⟩ : ByteArray) = false → bV key x.Key = false := by
     rcases hb with hb | hb
     ·rw [hb] at hc; cases hc
     ·exact hb
    refine k46 _ _ _ ⟨a, by simp; omega, h4.app (fun x hx => hb x hx), fun v hv => ?_⟩
    rcases List.mem_append.1 hv with hv | hv
    ·exact h5 v hv
    ·simp only [List.mem_singleton] at hv
     subst hv
     exact v1.rekey key b
   ·exact Er l key j54 _ y14 y15 q L2 A2 v4 y5 v13 y47 (by omega) k54 l.length n 0 false (by omega) (by omega) (.inr fun q x h => by omega)
  ·refine aG (Wj n (by decide) c) fun y c => bN (fun _ => ?_) fun _ => k48 _ _ _ ⟨c, by rw [v2]; exact Rl⟩
   exact aG (cV n c (by decide)) fun z ⟨za, zb, zc⟩ => k48 _ _ _ ⟨zc, key_ok z.1 za (zb (by decide))⟩
theorem Vs {kind : Int} {at_ : List bD} {ac : List cU} {l : List aJ} (hk : 1 ≤ kind ∧ kind ≤ 13) (ha : AL 15 at_) (h1 : ac.length ≤ 1) (h2 : ∀ a, a ∈ ac → EOk a) (h3 : l.length ≤ 4) (h4 : Kz l) : Loc (aJ.mk kind (⟨#[]⟩ : ByteArray) at_ ac l) :=
 ⟨hk, Rl, by have := ha.len; show at_.length ≤ 24; omega, ha.ok, ha.sort, h1, h2, h3, h4⟩
theorem Uy : ∀ (d : Nat), d ≤ 3 → ∀ (n : Nat) (p : aN), d + 100 ≤ n → bR p → kV (pA n p (d : Int)) fun y => nZ (d + 1) y.1 ∧ y.1.Key = (⟨#[]⟩ : ByteArray) ∧ bR y.2 := by
 intro d
 induction d with
 | zero => ?_
 | succ d ih => ?_
 all_goals
  intro hd n p hn h
  obtain ⟨n, rfl⟩ : ∃ m, n = m + 1 := ⟨n - 1, by omega⟩
  rw [pA, oM]
  refine aG (cV n h (by decide)) fun y ⟨a, b, c⟩ => aG (lV a (b (by decide))) fun e he => ?_
  have hek : 1 ≤ e ∧ e ≤ 13 := by
   simp only [List.mem_cons, List.not_mem_nil, or_false] at he
   omega
  refine qC (fun v4 => 1 ≤ v4 ∧ v4 ≤ 13) (fun v4 hv4 => ?_) fun j k => bN (fun _ => k 1 (by decide)) fun _ => k e hek
  refine aG (Ss n (by omega) v4 c) fun y5 ⟨al, c5⟩ => ?_
  refine bU (fun L A (ac : List cU) => bR ⟨L, A⟩ ∧ ac.length ≤ 1 ∧ ∀ a, a ∈ ac → EOk a) (fun L A ac ⟨s1, s2, s3⟩ => ?_) fun j k => ?_
  rotate_left
  ·refine aG (cV n c5 (by decide)) fun z ⟨_, _, zc⟩ => bN (fun _ => ?_) fun _ => k _ _ _ ⟨zc, by simp, fun a ha => nomatch ha⟩
   refine aG (Tv n (by omega) zc) fun w ⟨wv, wc⟩ => k _ _ _ ⟨wc, by simp, fun a ha => ?_⟩
   simp only [List.mem_singleton] at ha
   subst ha
   refine ⟨tR (by kernel_rfl), tR (by kernel_rfl), (by decide : (⟨#[47]⟩ : ByteArray).size ≤ 400), by simp, fun x hx => ?_⟩
   simp only [List.mem_singleton] at hx
   subst hx
   exact wv
 ·exact bN (fun _ => bX ⟨⟨Vs hv4 al s2 s3 (by simp) (fun i k a b _ ha => by simp at ha), fun k hk => nomatch hk⟩, rfl, s1⟩) fun hc => by simp at hc
 ·refine bN (fun hc => by simp at hc; omega) fun _ => ?_
  refine aG (cV n s1 (by decide)) fun y14 ⟨_, b14, c14⟩ => aG (cV n c14 (by decide)) fun y15 ⟨_, _, c15⟩ => ?_
  have b14 := b14 (by decide)
  refine bU (fun (l : List aJ) L A => bR ⟨L, A⟩ ∧ l.length ≤ 4 ∧ Kz l ∧ ∀ v, v ∈ l → nZ (d + 1) v) (fun l L A ⟨q1, q2, q3, q4⟩ => bX ⟨⟨Vs hv4 al s2 s3 q2 q3, q4⟩, rfl, q1⟩) fun j k => ?_
  exact Ij y14 (fun a0 a1 => pA n a0 a1) d (by omega) y15 v4 y5 ac j (by omega) (fun p hp => ih (by omega) n p (by omega) hp) (fun l L A a b c e => k l L A ⟨a, b, c, e⟩) 4 n 0 _ _ [] (by omega) (by omega) (by omega) c15 (by simp) (fun i k a b _ ha => by simp at ha) (fun v hv => nomatch hv)
theorem Xo (n : Nat) (hn : 9000 ≤ n) {p : aN} (h : bR p) : kV (wB n p 3) fun y => nZ 4 y.1 ∧ bR y.2 := by
 unfold wB
 refine aG (Uy 3 (by decide) n p (by omega) h) fun y ⟨a, b, c⟩ => ?_
 have hf := a.fuel4
 rw [Bh a n (by omega)]
 refine aG (P := fun e => e = 0) (bX rfl) fun e he => ?_
 subst he
 exact bN (fun hc => by simp at hc) fun _ => bX ⟨a, c⟩
theorem Vc (n : Nat) (hn : 9000 ≤ n) {p : aN} (h : bR p) : kV (vS n p 3) fun y => (∃ v, nZ 4 v ∧ cM y.1 v) ∧ bR y.2 := by
 unfold vS
 refine aG (Xo n hn h) fun y ⟨a, c⟩ => aG (Ab n c (by decide) (by decide) (by decide)) fun z ⟨z1, z2, zc⟩ => ?_
 have hf := a.fuel4
 obtain ⟨t, ht, hT⟩ := aAz a n z.1 (by omega) z1 (by omega)
 rw [ht]
 refine aG (P := fun w => w = (t, 0)) (bX rfl) fun w hw => ?_
 subst hw
 exact bX ⟨⟨y.1, a, hT⟩, zc⟩
end Go.Proofs.YtojkihhnioeggaaGreatDoor.S
