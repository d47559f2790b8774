import Derived.Test.YtojkihhnioeggaaGreatDoorQETr1
import Derived.WalkLawsBesides
import Derived.Deep.QuietTactic
import Derived.BigQuiet
import Derived.BigRegion
import Derived.Lib.Hide
import Derived.Deep.RegionWith
set_option linter.unusedSimpArgs false
set_option linter.all false
set_option linter.unusedVariables false
namespace Go.Proofs.YtojkihhnioeggaaGreatDoor.S
open Go Go.Bm
theorem kI {α : Type} {pre l : List α} {x : α} {q : Int} {L : List α} (hL : L = pre ++ x :: l) (hq : q = pre.length) : idx L q = some x := by
 unfold idx
 rw [if_pos (by omega), hq, Int.toNat_natCast, hL, List.getElem?_append_right (Nat.le_refl _), Nat.sub_self]
 rfl
theorem xG {α : Type} {b : Nat} {l els : List α} (h : l.length + els.length ≤ 100000) (hb : b ≤ 1000) : pA b l els = some (l ++ els) := by
 obtain ⟨r, hr, rfl⟩ := dK h hb
 exact hr
def oV : Int → Nat → List Int
 | _, 0 => []
 | i, n + 1 => i :: oV (i + 1) n
theorem yK : ∀ (n m : Nat) (i : Int), oV i (n + m) = oV i n ++ oV (i + n) m
 | 0, m, i => by simp [oV]
 | n + 1, m, i => by
  rw [show n + 1 + m = (n + m) + 1 by omega, oV, oV, yK n m (i + 1), List.cons_append]
  congr 3
  omega
theorem jX : ∀ (n : Nat) (i : Int), (oV i n).length = n
 | 0, _ => rfl
 | n + 1, i => by rw [oV, List.length_cons, jX]
theorem Bd : ∀ {n : Nat} {i x : Int}, x ∈ oV i n ↔ i ≤ x ∧ x < i + n
 | 0, i, x => by simp [oV]
 | n + 1, i, x => by
  rw [oV, List.mem_cons, Bd]
  constructor
  ·rintro (h | h) <;> omega
  ·intro h
   by_cases e : x = i
   ·exact .inl e
   ·exact .inr (by omega)
theorem Mu : ∀ (n : Nat) (i : Int), (oV i n).Nodup
 | 0, _ => .nil
 | n + 1, i => by
  rw [oV, List.nodup_cons]
  exact ⟨fun h => by have := (Bd.1 h).1; omega, Mu n _⟩
theorem Em : ∀ (l : List aN), (∀ k, k ∈ l → ∀ i p, (yA i p k).map aU.ID = oV i (eU k)) → ∀ i p, (mI i p l).map aU.ID = oV i (bY l)
 | [], _, _, _ => rfl
 | v :: l, h, i, p => by
  rw [mI, bY, List.map_append, h v (by simp), Em l (fun k hk => h k (by simp [hk])), yK]
theorem Gb (v : aN) : ∀ i p, (yA i p v).map aU.ID = oV i (eU v) := by
 induction v using kU with
 | h v ih =>
  intro i p
  rw [oE, jF, List.map_cons, Em v.Kids ih, Nat.add_comm, oV]
  rfl
theorem Eg : ∀ (l : List aN), (∀ k, k ∈ l → ∀ i p x, x ∈ yA i p k → (x.ID = i ∧ x.Parent = p) ∨ (i < x.ID ∧ i ≤ x.Parent ∧ x.Parent < x.ID)) → ∀ i p x, x ∈ mI i p l → i ≤ x.ID ∧ (x.Parent = p ∨ (i ≤ x.Parent ∧ x.Parent < x.ID))
 | [], _, _, _, _, h => nomatch h
 | v :: l, h, i, p, x, hx => by
  rw [mI, List.mem_append] at hx
  rcases hx with hx | hx
  ·rcases h v (by simp) i p x hx with ⟨a, b⟩ | ⟨a, b, c⟩
   ·exact ⟨by omega, .inl b⟩
   ·exact ⟨by omega, .inr ⟨b, c⟩⟩
  ·obtain ⟨a, b⟩ := Eg l (fun k hk => h k (by simp [hk])) _ p x hx
   refine ⟨by omega, ?_⟩
   rcases b with b | ⟨b, c⟩
   ·exact .inl b
   ·exact .inr ⟨by omega, c⟩
theorem Wj (v : aN) : ∀ i p x, x ∈ yA i p v → (x.ID = i ∧ x.Parent = p) ∨ (i < x.ID ∧ i ≤ x.Parent ∧ x.Parent < x.ID) := by
 induction v using kU with
 | h v ih =>
  intro i p x hx
  rw [oE, List.mem_cons] at hx
  rcases hx with rfl | hx
  ·exact .inl ⟨rfl, rfl⟩
  ·obtain ⟨a, b⟩ := Eg v.Kids ih _ _ x hx
   rcases b with b | ⟨b, c⟩
   ·exact .inr ⟨by omega, by omega, by omega⟩
   ·exact .inr ⟨by omega, by omega, c⟩
theorem Qt : ∀ (l : List aN) (s p k : Int), k ∈ tV s l → ∃ y, y ∈ mI s p l ∧ y.ID = k ∧ y.Parent = p
 | [], _, _, _, h => nomatch h
 | v :: l, s, p, k, h => by
  rw [tV, List.mem_cons] at h
  rw [mI]
  rcases h with rfl | h
  ·exact ⟨hd k p v, by rw [oE]; simp, rfl, rfl⟩
  ·obtain ⟨y, hy, h1, h2⟩ := Qt l _ p k h
   exact ⟨y, by simp [hy], h1, h2⟩
theorem Ew : ∀ (l : List aN), (∀ k, k ∈ l → ∀ i p x c, x ∈ yA i p k → c ∈ x.Kids → ∃ y, y ∈ yA i p k ∧ y.ID = c ∧ y.Parent = x.ID) → ∀ i p x c, x ∈ mI i p l → c ∈ x.Kids → ∃ y, y ∈ mI i p l ∧ y.ID = c ∧ y.Parent = x.ID
 | [], _, _, _, _, _, h, _ => nomatch h
 | v :: l, h, i, p, x, c, hx, hc => by
  rw [mI] at hx ⊢
  rcases List.mem_append.1 hx with hx | hx
  ·obtain ⟨y, hy, h1⟩ := h v (by simp) i p x c hx hc
   exact ⟨y, by simp [hy], h1⟩
  ·obtain ⟨y, hy, h1⟩ := Ew l (fun k hk => h k (by simp [hk])) _ p x c hx hc
   exact ⟨y, by simp [hy], h1⟩
theorem Us (v : aN) : ∀ i p x c, x ∈ yA i p v → c ∈ x.Kids → ∃ y, y ∈ yA i p v ∧ y.ID = c ∧ y.Parent = x.ID := by
 induction v using kU with
 | h v ih =>
  intro i p x c hx hc
  rw [oE] at hx ⊢
  rcases List.mem_cons.1 hx with rfl | hx
  ·obtain ⟨y, hy, h1, h2⟩ := Qt v.Kids (i + 1) i c hc
   exact ⟨y, by simp [hy], h1, h2⟩
  ·obtain ⟨y, hy, h1⟩ := Ew v.Kids ih _ _ x c hx hc
   exact ⟨y, by simp [hy], h1⟩
theorem Je : ∀ (l : List aN), (∀ k, k ∈ l → ∀ i p, ((yA i p k).flatMap aU.Kids).Nodup ∧ (∀ c, c ∈ (yA i p k).flatMap aU.Kids → i < c ∧ c < i + eU k) ∧ ((yA i p k).flatMap aU.Kids).length + 1 = eU k) → ∀ s p,
  (tV s l ++ (mI s p l).flatMap aU.Kids).Nodup ∧ (∀ c, c ∈ tV s l ++ (mI s p l).flatMap aU.Kids → s ≤ c ∧ c < s + bY l) ∧ (tV s l ++ (mI s p l).flatMap aU.Kids).length = bY l
 | [], _, s, p => ⟨by simp [tV, mI], fun c hc => by simp [tV, mI] at hc, rfl⟩
 | v :: l, h, s, p => by
  obtain ⟨a1, a2, a3⟩ := h v (by simp) s p
  obtain ⟨b1, b2, b3⟩ := Je l (fun k hk => h k (by simp [hk])) (s + eU v) p
  have hz := vU v
  rw [tV, mI, bY, List.flatMap_append, List.cons_append]
  have hp : (tV (s + eU v) l ++ ((yA s p v).flatMap aU.Kids ++ (mI (s + eU v) p l).flatMap aU.Kids)).Perm ((yA s p v).flatMap aU.Kids ++ (tV (s + eU v) l ++ (mI (s + eU v) p l).flatMap aU.Kids)) := List.perm_append_comm_assoc ..
  have hb : ∀ c, c ∈ (yA s p v).flatMap aU.Kids ++ (tV (s + eU v) l ++ (mI (s + eU v) p l).flatMap aU.Kids) → s < c ∧ c < s + (eU v + bY l : Nat) := fun c hc => by
   rcases List.mem_append.1 hc with hc | hc
   ·have := a2 c hc; omega
   ·have := b2 c hc; omega
  refine ⟨?_, fun c hc => ?_, ?_⟩
  ·rw [List.nodup_cons]
   refine ⟨fun hm => ?_, ?_⟩
   ·have := hb s (hp.mem_iff.1 hm); omega
   ·rw [hp.nodup_iff, List.nodup_append]
    refine ⟨a1, b1, fun x hx y hy e => ?_⟩
    have h1 := a2 x hx
    have h2 := b2 y hy
    omega
  ·rcases List.mem_cons.1 hc with rfl | hc
   ·omega
   ·have := hb c (hp.mem_iff.1 hc); omega
  ·rw [List.length_cons, hp.length_eq, List.length_append, b3]
   omega
theorem Sd (v : aN) : ∀ i p, ((yA i p v).flatMap aU.Kids).Nodup ∧ (∀ c, c ∈ (yA i p v).flatMap aU.Kids → i < c ∧ c < i + eU v) ∧ ((yA i p v).flatMap aU.Kids).length + 1 = eU v := by
 induction v using kU with
 | h v ih =>
  intro i p
  obtain ⟨b1, b2, b3⟩ := Je v.Kids ih (i + 1) i
  rw [oE, jF, List.flatMap_cons]
  refine ⟨b1, fun c hc => ?_, ?_⟩
  ·have := b2 c hc; omega
  ·have e : ((hd i p v).Kids ++ (mI (i + 1) i v.Kids).flatMap aU.Kids).length = bY v.Kids := b3
   rw [e]; omega
def kV (l : List aU) : List (Int × aU) := l.map fun x => (x.ID, x)
theorem Ep (a b : List aU) : kV (a ++ b) = kV a ++ kV b := List.map_append
theorem lW : ∀ {l : List aU}, (l.map aU.ID).Nodup → ∀ {x : aU}, x ∈ l → (kV l).lookup x.ID = some x
 | [], _, _, h => nomatch h
 | y :: l, hn, x, h => by
  rw [List.map_cons, List.nodup_cons] at hn
  unfold kV
  rw [List.map_cons, List.lookup_cons]
  rcases List.mem_cons.1 h with rfl | h
  ·simp
  ·have : (x.ID == y.ID) = false := by
    rw [beq_eq_false_iff_ne]
    intro e
    exact hn.1 (e ▸ List.mem_map.2 ⟨x, h, rfl⟩)
   rw [this]
   exact lW hn.2 h
theorem sS {β : Type} {k : Int} {v : β} : ∀ {l : List (Int × β)}, (∀ p, p ∈ l → p.1 ≠ k) → gS k v l = l ++ [(k, v)]
 | [], _ => rfl
 | p :: l, h => by
  have : (p.1 == k) = false := by rw [beq_eq_false_iff_ne]; exact h p (by simp)
  rw [gS, this]
  simp only [fT, if_false, List.cons_append]
  rw [sS fun q hq => h q (by simp [hq])]
theorem Pm (t : bA) (j : List (Int × aU) → Option ((List (Int × aU)) × Bool)) : ∀ (l pre : List aU) (n : Nat) (last q s : Int), t.Nodes = pre ++ l → q = pre.length → l.length < n → l.map aU.ID = oV s l.length → last < s → (∀ x, x ∈ pre → x.ID < s) → (∀ x, x ∈ l → x.ID < t.Next ∧ ((x.Parent == 0) = (x.ID == t.Root))) → t.Nodes.length ≤ 1000 →
  kG t j n last q (kV pre) = j (kV t.Nodes)
 | [], pre, n, last, q, s, ht, hq, hn, hi, hl, hp, hx, hz => by
  obtain ⟨n, rfl⟩ := nS n (by simp at hn; omega)
  have ab : t.Nodes.length = pre.length := by rw [ht]; simp
  rw [kG, if_neg (by simp; omega), ht, List.append_nil]
 | x :: l, pre, n, last, q, s, ht, hq, hn, hi, hl, hp, hx, hz => by
  obtain ⟨n, rfl⟩ := nS n (by simp at hn; omega)
  have ab : t.Nodes.length = pre.length + (l.length + 1) := by rw [ht]; simp
  have hw : w6 (q + 1) = q + 1 := wS (by omega) (by omega)
  rw [List.map_cons, List.length_cons, oV] at hi
  injection hi with hi1 hi2
  obtain ⟨g1, g2⟩ := hx x (by simp)
  rw [kG, if_pos (by simp; omega), kI ht hq]
  simp only [oB, hw]
  have c1 : decide (x.ID ≤ last) = false := by simp; omega
  have c2 : decide (x.ID ≥ t.Next) = false := by simp; omega
  rw [c1, c2, g2]
  simp only [Bool.or_self, bne_self_eq_false, fT, if_false]
  rw [sS fun p hp' => by
   obtain ⟨y, hy, rfl⟩ := List.mem_map.1 hp'
   have := hp y hy
   show y.ID ≠ x.ID
   omega]
  rw [show kV pre ++ [(x.ID, x)] = kV (pre ++ [x]) from (Ep pre [x]).symm]
  exact Pm t j l (pre ++ [x]) n x.ID (q + 1) (s + 1) (by rw [ht]; simp) (by simp; omega) (by simp at hn; omega) hi2 (by omega) (fun y hy => by
   rcases List.mem_append.1 hy with hy | hy
   ·have := hp y hy; omega
   ·simp only [List.mem_singleton] at hy; subst hy; omega) (fun y hy => hx y (by simp [hy])) hz
def Fb (l : List Int) : List (Int × Bool) := l.map fun k => (k, true)
theorem Ml {k : Int} : ∀ {l : List Int}, k ∉ l → (Fb l).lookup k = none
 | [], _ => rfl
 | x :: l, h => by
  have : (k == x) = false := by rw [beq_eq_false_iff_ne]; intro e; exact h (by simp [e])
  unfold Fb
  rw [List.map_cons, List.lookup_cons, this]
  exact Ml fun hk => h (by simp [hk])
theorem Qh (e : aU) (M : List (Int × aU)) (j : List (Int × Bool) → Option ((List (Int × aU)) × Bool)) (t : bA) (w : Int) (hz : e.Kids.length ≤ 1000) : ∀ (l pre : List Int) (n : Nat) (q : Int) (S : List Int), e.Kids = pre ++ l → q = pre.length → l.length < n → (S ++ l).Nodup → (∀ k, k ∈ l → ∃ y, M.lookup k = some y ∧ y.Parent = e.ID) →
  kD e M j t w n q (Fb S) = j (Fb (S ++ l))
 | [], pre, n, q, S, ht, hq, hn, hd, hm => by
  obtain ⟨n, rfl⟩ := nS n (by simp at hn; omega)
  have ab : e.Kids.length = pre.length := by rw [ht]; simp
  rw [kD, if_neg (by simp; omega), List.append_nil]
 | k :: l, pre, n, q, S, ht, hq, hn, hd, hm => by
  obtain ⟨n, rfl⟩ := nS n (by simp at hn; omega)
  have ab : e.Kids.length = pre.length + (l.length + 1) := by rw [ht]; simp
  have hw : w6 (q + 1) = q + 1 := wS (by omega) (by omega)
  obtain ⟨y, hy, hyp⟩ := hm k (by simp)
  have hks : k ∉ S := fun h => by
   rw [List.nodup_append] at hd
   exact hd.2.2 k h k (by simp) rfl
  rw [kD, if_pos (by simp; omega), kI ht hq]
  simp only [oB, hw, cZ, iG, hy, Ml hks, Option.getD_some, Option.isSome_some, Option.getD_none, hyp, bne_self_eq_false, Bool.not_true, Bool.or_self, Bool.not_false, gd, List.all_cons, List.all_nil, id, Bool.and_true, if_true, Option.isSome_none, Bool.or_false, show (default : Bool) = false from rfl, fT, if_false]
  rw [sS fun p hp' => by
   obtain ⟨x, hx, rfl⟩ := List.mem_map.1 hp'
   intro e'
   exact hks (e' ▸ hx)]
  rw [show Fb S ++ [(k, true)] = Fb (S ++ [k]) from by simp [Fb]]
  rw [Qh e M j t w hz l (pre ++ [k]) n (q + 1) (S ++ [k]) (by rw [ht]; simp) (by simp; omega) (by simp at hn; omega) (by simpa using hd) (fun c hc => hm c (by simp [hc]))]
  simp
theorem Qb (t : bA) (M : List (Int × aU)) (j : List (Int × Bool) → Option ((List (Int × aU)) × Bool)) (hz : t.Nodes.length ≤ 1000) : ∀ (l pre : List aU) (n : Nat) (q : Int) (S : List Int), t.Nodes = pre ++ l → q = pre.length → l.length + 1000 < n → (S ++ l.flatMap aU.Kids).Nodup → (S ++ l.flatMap aU.Kids).length ≤ 900 → (∀ x, x ∈ l → ∀ k, k ∈ x.Kids → ∃ y, M.lookup k = some y ∧ y.Parent = x.ID) →
  iY t M j n q (Fb S) = j (Fb (S ++ l.flatMap aU.Kids))
 | [], pre, n, q, S, ht, hq, hn, hd, hl, hm => by
  obtain ⟨n, rfl⟩ := nS n (by simp at hn; omega)
  have ab : t.Nodes.length = pre.length := by rw [ht]; simp
  rw [iY, if_neg (by simp; omega)]
  simp
 | x :: l, pre, n, q, S, ht, hq, hn, hd, hl, hm => by
  obtain ⟨n, rfl⟩ := nS n (by simp at hn; omega)
  have ab : t.Nodes.length = pre.length + (l.length + 1) := by rw [ht]; simp
  have hw : w6 (q + 1) = q + 1 := wS (by omega) (by omega)
  rw [List.flatMap_cons] at hd hl ⊢
  rw [← List.append_assoc] at hd hl
  have hkl : x.Kids.length ≤ 900 := by simp at hl; omega
  rw [iY, if_pos (by simp; omega)]
  unfold aS
  rw [kI ht hq]
  simp only [oB, hw]
  rw [Qh x M _ t q (by omega) x.Kids [] n 0 S rfl rfl (by omega) (List.nodup_append.1 hd).1 (fun k hk => hm x (by simp) k hk)]
  rw [Qb t M j hz l (pre ++ [x]) n (q + 1) (S ++ x.Kids) (by rw [ht]; simp) (by simp; omega) (by simp at hn; omega) hd hl (fun y hy => hm y (by simp [hy]))]
  rw [List.append_assoc]
def Sub (M : List (Int × aU)) (i p : Int) (v : aN) : Prop := ∀ x, x ∈ yA i p v → M.lookup x.ID = some x
theorem Sub.kid {M : List (Int × aU)} {i p : Int} {v : aN} (h : Sub M i p v) {pre l : List aN} {k : aN} (hk : v.Kids = pre ++ k :: l) : Sub M (i + 1 + bY pre) i k := fun x hx => by
 refine h x ?_
 rw [oE, hk]
 have : ∀ (pre : List aN) (s : Int), x ∈ yA (s + bY pre) i k → x ∈ mI s i (pre ++ k :: l) := by
  intro pre
  induction pre with
  | nil => intro s hx; rw [List.nil_append, mI]; rw [bY] at hx; simp at hx; simp [hx]
  | cons v pre ih =>
   intro s hx
   rw [List.cons_append, mI]
   rw [bY] at hx
   refine List.mem_append_right _ (ih (s + eU v) ?_)
   rw [show s + (eU v : Int) + (bY pre : Int) = s + ((eU v + bY pre : Nat) : Int) by omega]
   exact hx
 exact List.mem_cons_of_mem _ (this pre (i + 1) hx)
theorem iF (a b : List aN) : bY (a ++ b) = bY a + bY b := by
 induction a with
 | nil => simp [bY]
 | cons v a ih => rw [List.cons_append, bY, bY, ih]; omega
theorem vP : ∀ (a b : List aN) (i : Int), tV i (a ++ b) = tV i a ++ tV (i + bY a) b
 | [], b, i => by simp [tV, bY]
 | v :: a, b, i => by
  rw [List.cons_append, tV, tV, vP a b, bY, List.cons_append]
  congr 3
  omega
theorem qW (l : List aN) : l.length ≤ bY l := by
 induction l with
 | nil => simp
 | cons v l ih => rw [bY, List.length_cons]; have := vU v; omega
theorem Ru (M : List (Int × aU)) (self : List (Int × aU) → Int → Option (List Int)) (v : aN) (i p : Int) (b : Bool) (j : List Int → Option (List Int)) (hz : eU v ≤ 1000) (hs : ∀ pre k l, v.Kids = pre ++ k :: l → self M (i + 1 + bY pre) = some (oV (i + 1 + bY pre) (eU k))) : ∀ (l pre : List aN) (n : Nat) (q : Int), v.Kids = pre ++ l → q = pre.length → l.length < n →
  gX (hd i p v, b) self M j n (oV i (1 + bY pre)) q = j (oV i (1 + bY v.Kids))
 | [], pre, n, q, ht, hq, hn => by
  obtain ⟨n, rfl⟩ := nS n (by simp at hn; omega)
  have ab : (hd i p v).Kids.length = pre.length := by show (tV _ _).length = _; rw [rN, ht]; simp
  rw [gX, if_neg (by simp only [ab]; simp; omega), ht, List.append_nil]
 | k :: l, pre, n, q, ht, hq, hn => by
  obtain ⟨n, rfl⟩ := nS n (by simp at hn; omega)
  have ab : (hd i p v).Kids.length = pre.length + (l.length + 1) := by show (tV _ _).length = _; rw [rN, ht]; simp
  have hkl := qW v.Kids
  have ah := jF v
  have hv : bY v.Kids = bY pre + (eU k + bY l) := by rw [ht, iF, bY]
  have hpl : pre.length ≤ 1000 := by have := qW pre; omega
  have hw : w6 (q + 1) = q + 1 := wS (by omega) (by omega)
  have hix : idx (hd i p v).Kids q = some (i + 1 + bY pre) := by
   refine kI (pre := tV (i + 1) pre) (l := tV (i + 1 + bY pre + eU k) l) ?_ (by rw [rN]; exact hq)
   show tV (i + 1) v.Kids = _
   rw [ht, vP, tV]
  rw [gX, if_pos (by simp only [ab]; simp; omega), hix]
  simp only [oB]
  rw [hs pre k l ht]
  simp only [oB, hw]
  rw [xG (by rw [jX, jX]; omega) (by decide)]
  simp only [oB]
  have e : oV i (1 + bY pre) ++ oV (i + 1 + bY pre) (eU k) = oV i (1 + bY (pre ++ [k])) := by
   rw [iF, bY, bY, show 1 + (bY pre + (eU k + 0)) = (1 + bY pre) + eU k by omega, yK (1 + bY pre) (eU k) i, show i + ((1 + bY pre : Nat) : Int) = i + 1 + (bY pre : Int) by omega]
  rw [e]
  exact Ru M self v i p b j hz hs l (pre ++ [k]) n (q + 1) (by rw [ht]; simp) (by simp; omega) (by simp at hn; omega)
theorem Er (M : List (Int × aU)) (v : aN) : ∀ (n : Nat) (i p : Int), Sub M i p v → Cq v ≤ n → eU v ≤ 1000 → fN n M i = some (oV i (eU v)) := by
 induction v using kU with
 | h v ih =>
  intro n i p hM hn hz
  have hfu := vX v
  have ah := jF v
  obtain ⟨n, rfl⟩ := nS n (by omega)
  rw [fN, lN]
  unfold aS
  have hl : M.lookup i = some (hd i p v) := hM (hd i p v) (by rw [oE]; simp)
  simp only [cZ, iG, hl, Option.getD_some, Option.isSome_some, oB]
  have := Ru M (fun a0 a1 => fN n a0 a1) v i p true (fun v13 => some v13) hz (fun pre k l hk => by
   have ai : k ∈ v.Kids := by rw [hk]; simp
   exact ih k ai n _ i (hM.kid hk) (by have := qU ai; omega) (by have := sT ai; omega)) v.Kids [] n 0 rfl rfl (by omega)
  rw [show oV i (1 + bY []) = [i] from rfl] at this
  exact this.trans (by rw [ah])
theorem Mf (M : List (Int × aU)) (self : List (Int × aU) → Int → Option aN) (v : aN) (i p : Int) (b : Bool) (j : List aN → Option aN) (hz : eU v ≤ 1000) (hs : ∀ pre k l, v.Kids = pre ++ k :: l → self M (i + 1 + bY pre) = some k) : ∀ (l pre : List aN) (n : Nat) (q : Int), v.Kids = pre ++ l → q = pre.length → l.length < n →
  fU (hd i p v, b) self M j n q pre = j v.Kids
 | [], pre, n, q, ht, hq, hn => by
  obtain ⟨n, rfl⟩ := nS n (by simp at hn; omega)
  have ab : (hd i p v).Kids.length = pre.length := by show (tV _ _).length = _; rw [rN, ht]; simp
  rw [fU, if_neg (by simp only [ab]; simp; omega), ht, List.append_nil]
 | k :: l, pre, n, q, ht, hq, hn => by
  obtain ⟨n, rfl⟩ := nS n (by simp at hn; omega)
  have ab : (hd i p v).Kids.length = pre.length + (l.length + 1) := by show (tV _ _).length = _; rw [rN, ht]; simp
  have hkl := qW v.Kids
  have ah := jF v
  have hv : bY v.Kids = bY pre + (eU k + bY l) := by rw [ht, iF, bY]
  have hpl : pre.length ≤ 1000 := by have := qW pre; omega
  have hw : w6 (q + 1) = q + 1 := wS (by omega) (by omega)
  have hix : idx (hd i p v).Kids q = some (i + 1 + bY pre) := by
   refine kI (pre := tV (i + 1) pre) (l := tV (i + 1 + bY pre + eU k) l) ?_ (by rw [rN]; exact hq)
   show tV (i + 1) v.Kids = _
   rw [ht, vP, tV]
  rw [fU, if_pos (by simp only [ab]; simp; omega), hix]
  simp only [oB]
  rw [hs pre k l ht]
  simp only [oB, hw]
  rw [xG (by simp; omega) (by decide)]
  simp only [oB]
  exact Mf M self v i p b j hz hs l (pre ++ [k]) n (q + 1) (by rw [ht]; simp) (by simp; omega) (by simp at hn; omega)
theorem Nt (M : List (Int × aU)) (v : aN) : ∀ (n : Nat) (i p : Int), Sub M i p v → Cq v ≤ n → eU v ≤ 1000 → iB n M i = some v := by
 induction v using kU with
 | h v ih =>
  intro n i p hM hn hz
  have hfu := vX v
  have ah := jF v
  obtain ⟨n, rfl⟩ := nS n (by omega)
  rw [iB, kQ]
  unfold aS
  have hl : M.lookup i = some (hd i p v) := hM (hd i p v) (by rw [oE]; simp)
  simp only [cZ, iG, hl, Option.getD_some, Option.isSome_some, oB]
  exact (Mf M (fun a0 a1 => iB n a0 a1) v i p true _ hz (fun pre k l hk => by
   have ai : k ∈ v.Kids := by rw [hk]; simp
   exact ih k ai n _ i (hM.kid hk) (by have := qU ai; omega) (by have := sT ai; omega)) v.Kids [] n 0 rfl rfl (by omega)).trans (by cases v; rfl)
structure cR (t : bA) (v : aN) : Prop where
 root : 1 ≤ t.Root ∧ t.Root ≤ 1000000000
 next : t.Next = t.Root + eU v
 nodes : t.Nodes = yA t.Root 0 v
 size : eU v ≤ 400
theorem cR.nodup {t : bA} {v : aN} (h : cR t v) : (t.Nodes.map aU.ID).Nodup := by rw [h.nodes, Gb]; exact Mu _ _
theorem cR.sub {t : bA} {v : aN} (h : cR t v) : Sub (kV t.Nodes) t.Root 0 v := fun x hx => lW h.nodup (by rw [h.nodes]; exact hx)
theorem Yw {t : bA} {v : aN} (h : cR t v) (n : Nat) (hn : Cq v + 3000 ≤ n) : sX n t = some (kV t.Nodes, true) := by
 obtain ⟨r1, r2⟩ := h.root
 have hnx := h.next
 have ah := h.size
 have hp := vU v
 have ab : t.Nodes.length = eU v := by rw [h.nodes, Nb]
 unfold sX
 have c : ((((decide (t.Next < 2)) || (decide (t.Next > 1099511627776))) || (decide ((List.length t.Nodes : Int) < 1))) || (decide ((List.length t.Nodes : Int) > 400))) = false := by
  simp only [Bool.or_eq_false_iff, decide_eq_false_iff_not]
  omega
 rw [c]
 simp only [fT, if_false]
 unfold aS
 have g := Pm t (fun v10 => (some (cZ t.Root v10, iG t.Root v10)).bind fun (y11 : (aU × Bool)) => (if (!y11.2) = true then some (([] : List (Int × aU)), false) else (fun (j12 : List (Int × Bool) → Option ((List (Int × aU)) × Bool)) => iY t v10 j12 n 0 (gS t.Root true ([] : List (Int × Bool)))) fun (v43 : List (Int × Bool)) => (if ((List.length v43 : Int) != (List.length v10 : Int)) = true then some (([] : List (Int × aU)), false) else (fN n v10 t.Root).bind fun (y44 : (List Int)) => some (v10, ((List.length y44 : Int) == (List.length v10 : Int)))))) t.Nodes [] n 0 0 t.Root rfl rfl (by omega) (by rw [ab, h.nodes, Gb]) (by omega) (fun x hx => nomatch hx) (fun x hx => by
  rw [h.nodes] at hx
  have h1 := Bd.1 (Gb v t.Root 0 ▸ List.mem_map.2 ⟨x, hx, rfl⟩ : x.ID ∈ oV t.Root (eU v))
  refine ⟨by omega, ?_⟩
  rcases Wj v t.Root 0 x hx with ⟨a, b⟩ | ⟨a, b, _⟩
  ·rw [a, b]; simp
  ·have e1 : (x.Parent == 0) = false := by rw [beq_eq_false_iff_ne]; omega
   have e2 : (x.ID == t.Root) = false := by rw [beq_eq_false_iff_ne]; omega
   rw [e1, e2]) (by omega)
 refine (show _ = _ from g).trans ?_
 have hl : (kV t.Nodes).lookup t.Root = some (hd t.Root 0 v) := h.sub (hd t.Root 0 v) (by rw [oE]; simp)
 simp only [cZ, iG, hl, Option.getD_some, Option.isSome_some, oB, Bool.not_true, fT, if_false]
 obtain ⟨k1, k2, k3⟩ := Sd v t.Root 0
 have au : ([t.Root] ++ t.Nodes.flatMap aU.Kids).Nodup := by
  rw [h.nodes, List.singleton_append, List.nodup_cons]
  exact ⟨fun hm => by have := k2 _ hm; omega, k1⟩
 have hll : ([t.Root] ++ t.Nodes.flatMap aU.Kids).length = eU v := by
  rw [h.nodes, List.singleton_append, List.length_cons]; omega
 rw [show gS t.Root true ([] : List (Int × Bool)) = Fb [t.Root] from rfl]
 rw [Qb t (kV t.Nodes) _ (by omega) t.Nodes [] n 0 [t.Root] rfl rfl (by omega) au (by omega) (fun x hx k hk => by
  rw [h.nodes] at hx
  obtain ⟨y, hy, e1, e2⟩ := Us v t.Root 0 x k hx hk
  exact ⟨y, by rw [← e1]; exact h.sub y hy, e2⟩)]
 have e1 : (Fb ([t.Root] ++ t.Nodes.flatMap aU.Kids)).length = eU v := by rw [Fb, List.length_map, hll]
 have e2 : (kV t.Nodes).length = eU v := by rw [kV, List.length_map, ab]
 simp only [e1, e2, bne_self_eq_false, fT, if_false]
 rw [Er (kV t.Nodes) v n t.Root 0 h.sub (by omega) (by omega)]
 simp only [oB, jX, beq_self_eq_true]
theorem Jf {t : bA} {v : aN} (h : cR t v) (n : Nat) (hn : Cq v + 3000 ≤ n) : nG n t = (lX n v).bind fun y => some (kV t.Nodes, v, y) := by
 unfold nG
 rw [Yw h n hn]
 simp only [oB, Bool.not_true, fT, if_false]
 rw [Nt (kV t.Nodes) v n t.Root 0 h.sub (by omega) (by have := h.size; omega)]
 rfl
end Go.Proofs.YtojkihhnioeggaaGreatDoor.S
