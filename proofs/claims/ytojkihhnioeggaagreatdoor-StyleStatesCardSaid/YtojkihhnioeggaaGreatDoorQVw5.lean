import Derived.Test.YtojkihhnioeggaaGreatDoorQVw4
import Derived.WalkKit
import Derived.WalkSpells
import Derived.WalkLawsBesides
import Derived.Deep.QuietTactic
import Derived.BigQuiet
import Derived.BigRegion
import Derived.Lib.Hide
import Derived.Deep.RegionWith
set_option linter.unusedSimpArgs false
set_option linter.unusedVariables false
set_option linter.unusedSimpArgs false
set_option linter.unusedVariables false
namespace Go.Proofs.YtojkihhnioeggaaGreatDoor.S
open Go Go.Bm
theorem Mj : ∀ (l : List Int) (s : ByteArray), (l.foldl (fun r n => r.push (UInt8.ofNat n.toNat)) s).data.toList = s.data.toList ++ l.map fun n => UInt8.ofNat n.toNat
 | [], s => by simp
 | n :: l, s => by
  rw [List.foldl_cons, Mj l, List.map_cons]
  simp
theorem tJ (l : List Int) : (cQ l).data.toList = l.map fun n => UInt8.ofNat n.toNat := by
 unfold cQ
 rw [Mj]
 rfl
theorem Nv (l : List Int) (hl : l.length ≤ 100) (h : ∀ x, x ∈ l → 0 ≤ x ∧ x < 128) : Ta (cQ l) := by
 have hs : (cQ l).size = l.length := by
  show (cQ l).data.size = _
  have := congrArg List.length (tJ l)
  simpa using this
 refine jZ (by omega) ?_
 rw [tJ]
 have := Lib.validD_ascii (l.map fun n => UInt8.ofNat n.toNat).length (l.map fun n => UInt8.ofNat n.toNat) (fun b hb => by
  rw [List.take_length] at hb
  obtain ⟨x, hx, rfl⟩ := List.mem_map.1 hb
  obtain ⟨h0, h1⟩ := h x hx
  rw [UInt8.toNat_ofNat']
  omega)
 rw [this, List.drop_length]
 rfl
theorem Fe (y1 : Int × aS) (j : List Int → List Int → Int → Option (ByteArray × aS)) {Q : ByteArray × aS → Prop} (hj : ∀ l L A, bZ ⟨L, A⟩ → l.length ≤ 4 → (∀ x, x ∈ l → 0 ≤ x ∧ x < 128) → mQ (j l L A) Q) : ∀ (k n : Nat) (q : Int) (L : List Int) (A : Int) (l : List Int), q + k = y1.1 → 0 ≤ q → k < n → bZ ⟨L, A⟩ → (l.length : Int) = y1.1 → y1.1 ≤ 4 → (∀ x, x ∈ l → 0 ≤ x ∧ x < 128) → mQ (kB y1 j n q L A l) Q
 | k, 0, q, L, A, l, _, _, h, _, _, _, _ => by omega
 | 0, n + 1, q, L, A, l, h1, h0, h2, h, h3, h4, hl => by
  rw [kB]
  exact bV (fun hc => by simp only [decide_eq_true_eq] at hc; omega) fun _ => hj l L A h (by omega) hl
 | k + 1, n + 1, q, L, A, l, h1, h0, h2, h, h3, h4, hl => by
  have hw : IntKind.wrap .i64 (q + 1) = q + 1 := Go.Bm.bB (by omega) (by omega)
  rw [kB, hw]
  refine bV (fun _ => ?_) fun hc => by simp only [decide_eq_false_iff_not] at hc; omega
  refine aO (dT n h (by decide)) fun y ⟨a, b, c⟩ => ?_
  have b := b (by decide)
  have hin : pN q l.length = some q.toNat := by unfold pN; rw [if_pos ⟨by omega, by omega⟩]
  rw [hin]
  refine aO (P := fun k => k = q.toNat) (cF rfl) fun k12 hk => ?_
  subst hk
  refine aO (Un (by omega)) fun e _ => ?_
  have hwx : IntKind.wrap .u8 (IntKind.wrap .i64 (97 + y.1)) = 97 + y.1 := by
   have : y.1 = 0 ∨ y.1 = 1 ∨ y.1 = 2 ∨ y.1 = 3 := by omega
   rcases this with e | e | e | e <;> rw [e] <;> decide
  refine Fe y1 j hj k n (q + 1) _ _ _ (by omega) (by omega) (by omega) c (by simpa using h3) h4 fun x hx => ?_
  rcases List.mem_or_eq_of_mem_set hx with hx | rfl
  ·exact hl x hx
  ·rw [hwx]; omega
theorem Qf (n : Nat) (hn : 20 ≤ n) {p : aS} (h : bZ p) : mQ (qN n p 4) fun y => Ta y.1 ∧ bZ y.2 := by
 unfold qN
 have e5 : IntKind.wrap .i64 (4 + 1) = 5 := by decide
 rw [e5]
 refine aO (dT n h (by decide)) fun y ⟨a, b, c⟩ => ?_
 have b := b (by decide)
 have hm : Yf 1 y.1 = some y.1.toNat := by
  unfold Yf
  rw [if_pos ⟨a, by omega, by unfold maxLen; omega⟩]
 rw [hm]
 refine aO (P := fun k => k = y.1.toNat) (cF rfl) fun k hk => ?_
 subst hk
 refine cC (fun l L A => bZ ⟨L, A⟩ ∧ l.length ≤ 4 ∧ ∀ x, x ∈ l → 0 ≤ x ∧ x < 128) (fun l L A ⟨a, b, c⟩ => cF ⟨Nv l (by omega) c, a⟩) fun j k => ?_
 refine Fe y j (fun l L A a b c => k l L A ⟨a, b, c⟩) y.1.toNat n 0 _ _ _ (by omega) (by omega) (by omega) c (by simp; omega) (by omega) fun x hx => ?_
 have := (List.mem_replicate.1 hx).2
 omega
theorem Nl (n : Nat) (hn : 30 ≤ n) {p : aS} (h : bZ p) : mQ (mT n p 0) fun y => Jw y.1 ∧ bZ y.2 := by
 obtain ⟨n, rfl⟩ : ∃ m, n = m + 1 := ⟨n - 1, by omega⟩
 rw [mT, mM]
 refine Kp (fun L A => bZ ⟨L, A⟩) (fun L A c => ?_) fun j1 k1 => ?_
 ·refine aO (dT n c (by decide)) fun y ⟨a, b, c⟩ => aO (pO a (b (by decide))) fun e he => cF ⟨?_, c⟩
  simp only [List.mem_cons, List.not_mem_nil, or_false] at he
  exact uQ e (by omega) (by omega)
 ·refine aO (dT n h (by decide)) fun y ⟨a, b, c⟩ => bV (fun _ => ?_) fun _ => ?_
  ·exact aO (dT n c (by decide)) fun z ⟨za, zb, zc⟩ => cF ⟨tY z.1 (by have := zb (by decide); omega), zc⟩
  ·refine vL (fun _ => True) (fun v5 _ => ?_) fun j4 k4 => bV (fun _ => k4 _ trivial) fun _ => k4 _ trivial
   refine bV (fun _ => aO (Qf n (by omega) c) fun z ⟨zt, zc⟩ => cF ⟨qO z.1 zt, zc⟩) fun _ => ?_
   refine bV (fun _ => ?_) fun _ => k1 _ _ c
   exact bV (fun hc => by simp at hc) fun _ => k1 _ _ c
theorem sS.rekey {d : Nat} {v : aK} (h : sS d v) (key : ByteArray) (hk : KOk key) : sS d (aK.mk v.Kind key v.Attrs v.Actions v.Kids) := by
 match d, h with
 | d + 1, ⟨hl, hc⟩ => exact ⟨⟨hl.kind, hk, hl.alen, hl.attrs, hl.sort, hl.elen, hl.acts, hl.klen, hl.keys⟩, hc⟩
def Kz (l : List aK) : Prop := ∀ (i k : Nat) (a b : aK), k < i → l[i]? = some a → l[k]? = some b → dA a.Key (⟨#[]⟩ : ByteArray) = false → dA a.Key b.Key = false
theorem Rb {x y : ByteArray} (h : dA x y = false) : dA y x = false := by
 cases e : dA y x
 ·rfl
 ·rw [Wk e, gT] at h; cases h
theorem Kz.app {l : List aK} (h : Kz l) {v : aK} (hv : ∀ b, b ∈ l → dA v.Key (⟨#[]⟩ : ByteArray) = false → dA v.Key b.Key = false) : Kz (l ++ [v]) := by
 intro i k a b hki ha hb hn
 have hil := (List.getElem?_eq_some_iff.1 ha).1
 rw [List.length_append, List.length_singleton] at hil
 rw [List.getElem?_append_left (by omega)] at hb
 by_cases hi : i < l.length
 ·rw [List.getElem?_append_left hi] at ha
  exact h i k a b hki ha hb hn
 ·rw [List.getElem?_append_right (by omega), show i - l.length = 0 by omega] at ha
  simp only [List.getElem?_cons_zero, Option.some.injEq] at ha
  subst ha
  exact hv b (List.mem_of_getElem? hb) hn
theorem Bn (l : List aK) (key : ByteArray) (j : Bool → Option (aK × aS)) (p1 : Int) (y14 y15 : Int × aS) (v42 : Int) (v51 : List Int) (v52 v4 : Int) (y5 : (List aY) × aS) (v13 : List cA) (y47 : aK × aS) (hl : l.length ≤ 4) {Q : aK × aS → Prop} (hj : ∀ b, (b = true ∨ ∀ x, x ∈ l → dA key (⟨#[]⟩ : ByteArray) = false → dA key x.Key = false) → mQ (j b) Q) : ∀ (k n i : Nat) (b : Bool), i + k = l.length → k < n → (b = true ∨ ∀ (q : Nat) x, q < i → l[q]? = some x → dA key (⟨#[]⟩ : ByteArray) = false → dA key x.Key = false) → mQ (kA l key j p1 y14 y15 v42 v51 v52 v4 y5 v13 y47 n b (i : Int)) Q
 | k, 0, i, b, _, h, _ => by omega
 | 0, n + 1, i, b, hi, hn, hb => by
  rw [kA]
  refine bV (fun hc => by simp only [decide_eq_true_eq] at hc; omega) fun _ => hj b ?_
  rcases hb with hb | hb
  ·exact .inl hb
  ·refine .inr fun x hx => ?_
   obtain ⟨q, hq⟩ := List.getElem?_of_mem hx
   exact hb q x (by have := (List.getElem?_eq_some_iff.1 hq).1; omega) hq
 | k + 1, n + 1, i, b, hi, hn, hb => by
  have hw : IntKind.wrap .i64 ((i : Int) + 1) = ((i + 1 : Nat) : Int) := by rw [Go.Bm.bB (by omega) (by omega)]; omega
  rw [kA, hw]
  refine bV (fun _ => ?_) fun hc => by simp only [decide_eq_false_iff_not] at hc; omega
  have hlt : i < l.length := by omega
  have hg : mQ (gd [(!b), (!(dA key (⟨#[]⟩ : ByteArray)))] (idx l (i : Int))) fun x => b = false → dA key (⟨#[]⟩ : ByteArray) = false → x = l[i] := by
   rw [iP hlt]
   cases b <;> cases hq : dA key (⟨#[]⟩ : ByteArray)
   ·exact ⟨l[i], by simp [gd], fun _ _ => rfl⟩
   ·exact ⟨default, by simp [gd], fun _ h => by cases h⟩
   ·exact ⟨default, by simp [gd], fun h => by cases h⟩
   ·exact ⟨default, by simp [gd], fun h => by cases h⟩
  refine aO hg fun x hx => ?_
  refine Bn l key j p1 y14 y15 v42 v51 v52 v4 y5 v13 y47 hl hj k n (i + 1) _ (by omega) (by omega) ?_
  cases hbb : b
  ·rcases hb with hb | hb
   ·rw [hbb] at hb; cases hb
   ·cases hq : dA key (⟨#[]⟩ : ByteArray)
    ·have hx := hx hbb hq
     subst hx
     cases he : dA l[i].Key key
     ·refine .inr fun q x hqi hx' hn' => ?_
      by_cases hqi2 : q < i
      ·exact hb q x hqi2 hx' hq
      ·obtain rfl : q = i := by omega
       rw [List.getElem?_eq_getElem hlt] at hx'
       obtain rfl := Option.some.inj hx'
       exact Rb he
     ·exact .inl rfl
    ·refine .inr fun q x hqi hx' hn' => ?_
     cases hn'
  ·exact .inl rfl
theorem Eg (y14 : Int × aS) (self : aS → Int → Option (aK × aS)) (d : Nat) (hd : d ≤ 3) (y15 : Int × aS) (v4 : Int) (y5 : (List aY) × aS) (v13 : List cA) (j : List aK → List Int → Int → Option (aK × aS)) {Q : aK × aS → Prop} (h14 : y14.1 ≤ 4)
  (hs : ∀ p, bZ p → mQ (self p (d : Int)) fun y => sS (d + 1) y.1 ∧ y.1.Key = (⟨#[]⟩ : ByteArray) ∧ bZ y.2) (hj : ∀ l L A, bZ ⟨L, A⟩ → l.length ≤ 4 → Kz l → (∀ v, v ∈ l → sS (d + 1) v) → mQ (j l L A) Q) : ∀ (k n : Nat) (q : Int) (L : List Int) (A : Int) (l : List aK), q + k = 4 → 0 ≤ q → k + 20 < n → bZ ⟨L, A⟩ → (l.length : Int) ≤ q → Kz l → (∀ v, v ∈ l → sS (d + 1) v) → mQ (kK y14 self ((d + 1 : Nat) : Int) y15 v4 y5 v13 j n q L A l) Q
 | k, 0, q, L, A, l, _, _, h, _, _, _, _ => by omega
 | 0, n + 1, q, L, A, l, h1, h0, h2, h, h3, h4, h5 => by
  rw [kK]
  exact bV (fun hc => by simp only [decide_eq_true_eq] at hc; omega) fun _ => hj l L A h (by omega) h4 h5
 | k + 1, n + 1, q, L, A, l, h1, h0, h2, h, h3, h4, h5 => by
  have hw : IntKind.wrap .i64 (q + 1) = q + 1 := Go.Bm.bB (by omega) (by omega)
  have hw2 : IntKind.wrap .i64 (((d + 1 : Nat) : Int) - 1) = (d : Int) := by rw [Go.Bm.bB (by omega) (by omega)]; omega
  rw [kK, hw, hw2]
  refine bV (fun _ => ?_) fun _ => hj l L A h (by omega) h4 h5
  refine cC (fun L A (l2 : List aK) => bZ ⟨L, A⟩ ∧ (l2.length : Int) ≤ q + 1 ∧ Kz l2 ∧ ∀ v, v ∈ l2 → sS (d + 1) v) (fun L A l2 ⟨a, b, c, e⟩ => Eg y14 self d hd y15 v4 y5 v13 j h14 hs hj k n (q + 1) L A l2 (by omega) (by omega) (by omega) a b c e) fun j46 k46 => ?_
  refine aO (hs _ h) fun y47 ⟨v1, v2, c⟩ => ?_
  refine cC (fun L A key => bZ ⟨L, A⟩ ∧ KOk key) (fun L2 A2 key ⟨a, b⟩ => ?_) fun j48 k48 => ?_
  ·refine vL (fun b => b = true ∨ ∀ x, x ∈ l → dA key (⟨#[]⟩ : ByteArray) = false → dA key x.Key = false) (fun bb hb => ?_) fun j54 k54 => ?_
   ·refine bV (fun hc => ?_) fun _ => k46 _ _ _ ⟨a, by omega, h4, h5⟩
    refine aO (eU (by simp; omega) (by decide)) fun r hr => ?_
    subst hr
    have hb : ∀ x, x ∈ l → dA key (⟨#[]⟩ : ByteArray) = false → dA key x.Key = false := by
     rcases hb with hb | hb
     ·rw [hb] at hc; cases hc
     ·exact hb
    refine k46 _ _ _ ⟨a, by simp; omega, h4.app (fun x hx => hb x hx), fun v hv => ?_⟩
    rcases List.mem_append.1 hv with hv | hv
    ·exact h5 v hv
    ·simp only [List.mem_singleton] at hv
     subst hv
     exact v1.rekey key b
   ·exact Bn l key j54 _ y14 y15 q L2 A2 v4 y5 v13 y47 (by omega) k54 l.length n 0 false (by omega) (by omega) (.inr fun q x h => by omega)
  ·refine aO (Py n (by decide) c) fun y c => bV (fun _ => ?_) fun _ => k48 _ _ _ ⟨c, by rw [v2]; exact Na⟩
   exact aO (dT n c (by decide)) fun z ⟨za, zb, zc⟩ => k48 _ _ _ ⟨zc, Xf z.1 za (zb (by decide))⟩
theorem Pg {kind : Int} {at_ : List aY} {ac : List cA} {l : List aK} (hk : 1 ≤ kind ∧ kind ≤ 13) (ha : AL 15 at_) (h1 : ac.length ≤ 1) (h2 : ∀ a, a ∈ ac → EOk a) (h3 : l.length ≤ 4) (h4 : Kz l) : Xg (aK.mk kind (⟨#[]⟩ : ByteArray) at_ ac l) :=
 ⟨hk, Na, by have := ha.len; show at_.length ≤ 24; omega, ha.ok, ha.sort, h1, h2, h3, h4⟩
theorem Ry : ∀ (d : Nat), d ≤ 3 → ∀ (n : Nat) (p : aS), d + 100 ≤ n → bZ p → mQ (nL n p (d : Int)) fun y => sS (d + 1) y.1 ∧ y.1.Key = (⟨#[]⟩ : ByteArray) ∧ bZ y.2 := by
 intro d
 induction d with
 | zero => ?_
 | succ d ih => ?_
 all_goals
  intro hd n p hn h
  obtain ⟨n, rfl⟩ : ∃ m, n = m + 1 := ⟨n - 1, by omega⟩
  rw [nL, nA]
  refine aO (dT n h (by decide)) fun y ⟨a, b, c⟩ => aO (pO a (b (by decide))) fun e he => ?_
  have hek : 1 ≤ e ∧ e ≤ 13 := by
   simp only [List.mem_cons, List.not_mem_nil, or_false] at he
   omega
  refine vL (fun v4 => 1 ≤ v4 ∧ v4 ≤ 13) (fun v4 hv4 => ?_) fun j k => bV (fun _ => k 1 (by decide)) fun _ => k e hek
  refine aO (Ot n (by omega) v4 c) fun y5 ⟨al, c5⟩ => ?_
  refine cC (fun L A (ac : List cA) => bZ ⟨L, A⟩ ∧ ac.length ≤ 1 ∧ ∀ a, a ∈ ac → EOk a) (fun L A ac ⟨s1, s2, s3⟩ => ?_) fun j k => ?_
  rotate_left
  ·refine aO (dT n c5 (by decide)) fun z ⟨_, _, zc⟩ => bV (fun _ => ?_) fun _ => k _ _ _ ⟨zc, by simp, fun a ha => nomatch ha⟩
   refine aO (Nl n (by omega) zc) fun w ⟨wv, wc⟩ => k _ _ _ ⟨wc, by simp, fun a ha => ?_⟩
   simp only [List.mem_singleton] at ha
   subst ha
   refine ⟨Kj (by kernel_rfl), Kj (by kernel_rfl), (by decide : (⟨#[47]⟩ : ByteArray).size ≤ 400), by simp, fun x hx => ?_⟩
   simp only [List.mem_singleton] at hx
   subst hx
   exact wv
 ·exact bV (fun _ => cF ⟨⟨Pg hv4 al s2 s3 (by simp) (fun i k a b _ ha => by simp at ha), fun k hk => nomatch hk⟩, rfl, s1⟩) fun hc => by simp at hc
 ·refine bV (fun hc => by simp at hc; omega) fun _ => ?_
  refine aO (dT n s1 (by decide)) fun y14 ⟨_, b14, c14⟩ => aO (dT n c14 (by decide)) fun y15 ⟨_, _, c15⟩ => ?_
  have b14 := b14 (by decide)
  refine cC (fun (l : List aK) L A => bZ ⟨L, A⟩ ∧ l.length ≤ 4 ∧ Kz l ∧ ∀ v, v ∈ l → sS (d + 1) v) (fun l L A ⟨q1, q2, q3, q4⟩ => cF ⟨⟨Pg hv4 al s2 s3 q2 q3, q4⟩, rfl, q1⟩) fun j k => ?_
  exact Eg y14 (fun a0 a1 => nL n a0 a1) d (by omega) y15 v4 y5 ac j (by omega) (fun p hp => ih (by omega) n p (by omega) hp) (fun l L A a b c e => k l L A ⟨a, b, c, e⟩) 4 n 0 _ _ [] (by omega) (by omega) (by omega) c15 (by simp) (fun i k a b _ ha => by simp at ha) (fun v hv => nomatch hv)
theorem Qq (n : Nat) (hn : 9000 ≤ n) {p : aS} (h : bZ p) : mQ (tP n p 3) fun y => sS 4 y.1 ∧ bZ y.2 := by
 unfold tP
 refine aO (Ry 3 (by decide) n p (by omega) h) fun y ⟨a, b, c⟩ => ?_
 have hf := a.fuel4
 rw [yM a n (by omega)]
 refine aO (P := fun e => e = 0) (cF rfl) fun e he => ?_
 subst he
 exact bV (fun hc => by simp at hc) fun _ => cF ⟨a, c⟩
theorem Sr (n : Nat) (hn : 9000 ≤ n) {p : aS} (h : bZ p) : mQ (uB n p 3) fun y => (∃ v, sS 4 v ∧ dK y.1 v) ∧ bZ y.2 := by
 unfold uB
 refine aO (Qq n hn h) fun y ⟨a, c⟩ => aO (En n c (by decide) (by decide) (by decide)) fun z ⟨z1, z2, zc⟩ => ?_
 have hf := a.fuel4
 obtain ⟨t, ht, hT⟩ := Ux a n z.1 (by omega) z1 (by omega)
 rw [ht]
 refine aO (P := fun w => w = (t, 0)) (cF rfl) fun w hw => ?_
 subst hw
 exact cF ⟨⟨y.1, a, hT⟩, zc⟩
end Go.Proofs.YtojkihhnioeggaaGreatDoor.S
