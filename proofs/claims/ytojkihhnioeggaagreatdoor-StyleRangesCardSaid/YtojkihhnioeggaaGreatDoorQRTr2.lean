import Derived.Test.YtojkihhnioeggaaGreatDoorQRTr1
import Derived.WalkKit
import Derived.WalkSpells
import Derived.WalkLawsBesides
import Derived.Deep.QuietTactic
import Derived.BigQuiet
import Derived.BigRegion
import Derived.Lib.Hide
import Derived.Deep.RegionWith
set_option linter.unusedSimpArgs false
set_option linter.unusedVariables false
set_option linter.unusedSimpArgs false
set_option linter.unusedVariables false
namespace Go.Proofs.YtojkihhnioeggaaGreatDoor.S
open Go Go.Bm
theorem jQ {α : Type} {pre l : List α} {x : α} {q : Int} {L : List α} (hL : L = pre ++ x :: l) (hq : q = pre.length) : idx L q = some x := by
 unfold idx
 rw [if_pos (by omega), hq, Int.toNat_natCast, hL, List.getElem?_append_right (Nat.le_refl _), Nat.sub_self]
 rfl
theorem wX {α : Type} {b : Nat} {l els : List α} (h : l.length + els.length ≤ 100000) (hb : b ≤ 1000) : pE b l els = some (l ++ els) := by
 obtain ⟨r, hr, rfl⟩ := dT h hb
 exact hr
def oC : Int → Nat → List Int
 | _, 0 => []
 | i, n + 1 => i :: oC (i + 1) n
theorem vU : ∀ (n m : Nat) (i : Int), oC i (n + m) = oC i n ++ oC (i + n) m
 | 0, m, i => by simp [oC]
 | n + 1, m, i => by
  rw [show n + 1 + m = (n + m) + 1 by omega, oC, oC, vU n m (i + 1), List.cons_append]
  congr 3
  omega
theorem lR : ∀ (n : Nat) (i : Int), (oC i n).length = n
 | 0, _ => rfl
 | n + 1, i => by rw [oC, List.length_cons, lR]
theorem xZ : ∀ {n : Nat} {i x : Int}, x ∈ oC i n ↔ i ≤ x ∧ x < i + n
 | 0, i, x => by simp [oC]
 | n + 1, i, x => by
  rw [oC, List.mem_cons, xZ]
  constructor
  ·rintro (h | h) <;> omega
  ·intro h
   by_cases e : x = i
   ·exact .inl e
   ·exact .inr (by omega)
theorem Ip : ∀ (n : Nat) (i : Int), (oC i n).Nodup
 | 0, _ => .nil
 | n + 1, i => by
  rw [oC, List.nodup_cons]
  exact ⟨fun h => by have := (xZ.1 h).1; omega, Ip n _⟩
theorem Az : ∀ (l : List aG), (∀ k, k ∈ l → ∀ i p, (vK i p k).map aP.ID = oC i (gD k)) → ∀ i p, (kO i p l).map aP.ID = oC i (cA l)
 | [], _, _, _ => rfl
 | v :: l, h, i, p => by
  rw [kO, cA, List.map_append, h v (by simp), Az l (fun k hk => h k (by simp [hk])), vU]
theorem Cj (v : aG) : ∀ i p, (vK i p v).map aP.ID = oC i (gD v) := by
 induction v using kD with
 | h v ih =>
  intro i p
  rw [mM, lV, List.map_cons, Az v.Kids ih, Nat.add_comm, oC]
  rfl
theorem Au : ∀ (l : List aG), (∀ k, k ∈ l → ∀ i p x, x ∈ vK i p k → (x.ID = i ∧ x.Parent = p) ∨ (i < x.ID ∧ i ≤ x.Parent ∧ x.Parent < x.ID)) → ∀ i p x, x ∈ kO i p l → i ≤ x.ID ∧ (x.Parent = p ∨ (i ≤ x.Parent ∧ x.Parent < x.ID))
 | [], _, _, _, _, h => nomatch h
 | v :: l, h, i, p, x, hx => by
  rw [kO, List.mem_append] at hx
  rcases hx with hx | hx
  ·rcases h v (by simp) i p x hx with ⟨a, b⟩ | ⟨a, b, c⟩
   ·exact ⟨by omega, .inl b⟩
   ·exact ⟨by omega, .inr ⟨b, c⟩⟩
  ·obtain ⟨a, b⟩ := Au l (fun k hk => h k (by simp [hk])) _ p x hx
   refine ⟨by omega, ?_⟩
   rcases b with b | ⟨b, c⟩
   ·exact .inl b
   ·exact .inr ⟨by omega, c⟩
theorem Rm (v : aG) : ∀ i p x, x ∈ vK i p v → (x.ID = i ∧ x.Parent = p) ∨ (i < x.ID ∧ i ≤ x.Parent ∧ x.Parent < x.ID) := by
 induction v using kD with
 | h v ih =>
  intro i p x hx
  rw [mM, List.mem_cons] at hx
  rcases hx with rfl | hx
  ·exact .inl ⟨rfl, rfl⟩
  ·obtain ⟨a, b⟩ := Au v.Kids ih _ _ x hx
   rcases b with b | ⟨b, c⟩
   ·exact .inr ⟨by omega, by omega, by omega⟩
   ·exact .inr ⟨by omega, by omega, c⟩
theorem Ml : ∀ (l : List aG) (s p k : Int), k ∈ rN s l → ∃ y, y ∈ kO s p l ∧ y.ID = k ∧ y.Parent = p
 | [], _, _, _, h => nomatch h
 | v :: l, s, p, k, h => by
  rw [rN, List.mem_cons] at h
  rw [kO]
  rcases h with rfl | h
  ·exact ⟨hd k p v, by rw [mM]; simp, rfl, rfl⟩
  ·obtain ⟨y, hy, h1, h2⟩ := Ml l _ p k h
   exact ⟨y, by simp [hy], h1, h2⟩
theorem Bj : ∀ (l : List aG), (∀ k, k ∈ l → ∀ i p x c, x ∈ vK i p k → c ∈ x.Kids → ∃ y, y ∈ vK i p k ∧ y.ID = c ∧ y.Parent = x.ID) → ∀ i p x c, x ∈ kO i p l → c ∈ x.Kids → ∃ y, y ∈ kO i p l ∧ y.ID = c ∧ y.Parent = x.ID
 | [], _, _, _, _, _, h, _ => nomatch h
 | v :: l, h, i, p, x, c, hx, hc => by
  rw [kO] at hx ⊢
  rcases List.mem_append.1 hx with hx | hx
  ·obtain ⟨y, hy, h1⟩ := h v (by simp) i p x c hx hc
   exact ⟨y, by simp [hy], h1⟩
  ·obtain ⟨y, hy, h1⟩ := Bj l (fun k hk => h k (by simp [hk])) _ p x c hx hc
   exact ⟨y, by simp [hy], h1⟩
theorem Qc (v : aG) : ∀ i p x c, x ∈ vK i p v → c ∈ x.Kids → ∃ y, y ∈ vK i p v ∧ y.ID = c ∧ y.Parent = x.ID := by
 induction v using kD with
 | h v ih =>
  intro i p x c hx hc
  rw [mM] at hx ⊢
  rcases List.mem_cons.1 hx with rfl | hx
  ·obtain ⟨y, hy, h1, h2⟩ := Ml v.Kids (i + 1) i c hc
   exact ⟨y, by simp [hy], h1, h2⟩
  ·obtain ⟨y, hy, h1⟩ := Bj v.Kids ih _ _ x c hx hc
   exact ⟨y, by simp [hy], h1⟩
theorem Fb : ∀ (l : List aG), (∀ k, k ∈ l → ∀ i p, ((vK i p k).flatMap aP.Kids).Nodup ∧ (∀ c, c ∈ (vK i p k).flatMap aP.Kids → i < c ∧ c < i + gD k) ∧ ((vK i p k).flatMap aP.Kids).length + 1 = gD k) → ∀ s p,
  (rN s l ++ (kO s p l).flatMap aP.Kids).Nodup ∧ (∀ c, c ∈ rN s l ++ (kO s p l).flatMap aP.Kids → s ≤ c ∧ c < s + cA l) ∧ (rN s l ++ (kO s p l).flatMap aP.Kids).length = cA l
 | [], _, s, p => ⟨by simp [rN, kO], fun c hc => by simp [rN, kO] at hc, rfl⟩
 | v :: l, h, s, p => by
  obtain ⟨a1, a2, a3⟩ := h v (by simp) s p
  obtain ⟨b1, b2, b3⟩ := Fb l (fun k hk => h k (by simp [hk])) (s + gD v) p
  have hz := tJ v
  rw [rN, kO, cA, List.flatMap_append, List.cons_append]
  have hp : (rN (s + gD v) l ++ ((vK s p v).flatMap aP.Kids ++ (kO (s + gD v) p l).flatMap aP.Kids)).Perm ((vK s p v).flatMap aP.Kids ++ (rN (s + gD v) l ++ (kO (s + gD v) p l).flatMap aP.Kids)) := List.perm_append_comm_assoc ..
  have hb : ∀ c, c ∈ (vK s p v).flatMap aP.Kids ++ (rN (s + gD v) l ++ (kO (s + gD v) p l).flatMap aP.Kids) → s < c ∧ c < s + (gD v + cA l : Nat) := fun c hc => by
   rcases List.mem_append.1 hc with hc | hc
   ·have := a2 c hc; omega
   ·have := b2 c hc; omega
  refine ⟨?_, fun c hc => ?_, ?_⟩
  ·rw [List.nodup_cons]
   refine ⟨fun hm => ?_, ?_⟩
   ·have := hb s (hp.mem_iff.1 hm); omega
   ·rw [hp.nodup_iff, List.nodup_append]
    refine ⟨a1, b1, fun x hx y hy e => ?_⟩
    have h1 := a2 x hx
    have h2 := b2 y hy
    omega
  ·rcases List.mem_cons.1 hc with rfl | hc
   ·omega
   ·have := hb c (hp.mem_iff.1 hc); omega
  ·rw [List.length_cons, hp.length_eq, List.length_append, b3]
   omega
theorem Nv (v : aG) : ∀ i p, ((vK i p v).flatMap aP.Kids).Nodup ∧ (∀ c, c ∈ (vK i p v).flatMap aP.Kids → i < c ∧ c < i + gD v) ∧ ((vK i p v).flatMap aP.Kids).length + 1 = gD v := by
 induction v using kD with
 | h v ih =>
  intro i p
  obtain ⟨b1, b2, b3⟩ := Fb v.Kids ih (i + 1) i
  rw [mM, lV, List.flatMap_cons]
  refine ⟨b1, fun c hc => ?_, ?_⟩
  ·have := b2 c hc; omega
  ·have e : ((hd i p v).Kids ++ (kO (i + 1) i v.Kids).flatMap aP.Kids).length = cA v.Kids := b3
   rw [e]; omega
def kE (l : List aP) : List (Int × aP) := l.map fun x => (x.ID, x)
theorem Bc (a b : List aP) : kE (a ++ b) = kE a ++ kE b := List.map_append
theorem mQ : ∀ {l : List aP}, (l.map aP.ID).Nodup → ∀ {x : aP}, x ∈ l → (kE l).lookup x.ID = some x
 | [], _, _, h => nomatch h
 | y :: l, hn, x, h => by
  rw [List.map_cons, List.nodup_cons] at hn
  unfold kE
  rw [List.map_cons, List.lookup_cons]
  rcases List.mem_cons.1 h with rfl | h
  ·simp
  ·have : (x.ID == y.ID) = false := by
    rw [beq_eq_false_iff_ne]
    intro e
    exact hn.1 (e ▸ List.mem_map.2 ⟨x, h, rfl⟩)
   rw [this]
   exact mQ hn.2 h
theorem sI {β : Type} {k : Int} {v : β} : ∀ {l : List (Int × β)}, (∀ p, p ∈ l → p.1 ≠ k) → iF k v l = l ++ [(k, v)]
 | [], _ => rfl
 | p :: l, h => by
  have : (p.1 == k) = false := by rw [beq_eq_false_iff_ne]; exact h p (by simp)
  rw [iF, this]
  simp only [Bool.false_eq_true, if_false, List.cons_append]
  rw [sI fun q hq => h q (by simp [hq])]
theorem Ld (t : bA) (j : List (Int × aP) → Option ((List (Int × aP)) × Bool)) : ∀ (l pre : List aP) (n : Nat) (last q s : Int), t.Nodes = pre ++ l → q = pre.length → l.length < n → l.map aP.ID = oC s l.length → last < s → (∀ x, x ∈ pre → x.ID < s) → (∀ x, x ∈ l → x.ID < t.Next ∧ ((x.Parent == 0) = (x.ID == t.Root))) → t.Nodes.length ≤ 1000 →
  jB t j n last q (kE pre) = j (kE t.Nodes)
 | [], pre, n, last, q, s, ht, hq, hn, hi, hl, hp, hx, hz => by
  obtain ⟨n, rfl⟩ : ∃ m, n = m + 1 := ⟨n - 1, by simp at hn; omega⟩
  have hlen : t.Nodes.length = pre.length := by rw [ht]; simp
  rw [jB, if_neg (by simp; omega), ht, List.append_nil]
 | x :: l, pre, n, last, q, s, ht, hq, hn, hi, hl, hp, hx, hz => by
  obtain ⟨n, rfl⟩ : ∃ m, n = m + 1 := ⟨n - 1, by simp at hn; omega⟩
  have hlen : t.Nodes.length = pre.length + (l.length + 1) := by rw [ht]; simp
  have hw : IntKind.wrap .i64 (q + 1) = q + 1 := Go.Bm.aS (by omega) (by omega)
  rw [List.map_cons, List.length_cons, oC] at hi
  injection hi with hi1 hi2
  obtain ⟨g1, g2⟩ := hx x (by simp)
  rw [jB, if_pos (by simp; omega), jQ ht hq]
  simp only [Option.bind_some, hw]
  have c1 : decide (x.ID ≤ last) = false := by simp; omega
  have c2 : decide (x.ID ≥ t.Next) = false := by simp; omega
  rw [c1, c2, g2]
  simp only [Bool.or_self, bne_self_eq_false, Bool.false_eq_true, if_false]
  rw [sI fun p hp' => by
   obtain ⟨y, hy, rfl⟩ := List.mem_map.1 hp'
   have := hp y hy
   show y.ID ≠ x.ID
   omega]
  rw [show kE pre ++ [(x.ID, x)] = kE (pre ++ [x]) from (Bc pre [x]).symm]
  exact Ld t j l (pre ++ [x]) n x.ID (q + 1) (s + 1) (by rw [ht]; simp) (by simp; omega) (by simp at hn; omega) hi2 (by omega) (fun y hy => by
   rcases List.mem_append.1 hy with hy | hy
   ·have := hp y hy; omega
   ·simp only [List.mem_singleton] at hy; subst hy; omega) (fun y hy => hx y (by simp [hy])) hz
def Br (l : List Int) : List (Int × Bool) := l.map fun k => (k, true)
theorem Ig {k : Int} : ∀ {l : List Int}, k ∉ l → (Br l).lookup k = none
 | [], _ => rfl
 | x :: l, h => by
  have : (k == x) = false := by rw [beq_eq_false_iff_ne]; intro e; exact h (by simp [e])
  unfold Br
  rw [List.map_cons, List.lookup_cons, this]
  exact Ig fun hk => h (by simp [hk])
theorem Mc (e : aP) (M : List (Int × aP)) (j : List (Int × Bool) → Option ((List (Int × aP)) × Bool)) (t : bA) (w : Int) (hz : e.Kids.length ≤ 1000) : ∀ (l pre : List Int) (n : Nat) (q : Int) (S : List Int), e.Kids = pre ++ l → q = pre.length → l.length < n → (S ++ l).Nodup → (∀ k, k ∈ l → ∃ y, M.lookup k = some y ∧ y.Parent = e.ID) →
  iZ e M j t w n q (Br S) = j (Br (S ++ l))
 | [], pre, n, q, S, ht, hq, hn, hd, hm => by
  obtain ⟨n, rfl⟩ : ∃ m, n = m + 1 := ⟨n - 1, by simp at hn; omega⟩
  have hlen : e.Kids.length = pre.length := by rw [ht]; simp
  rw [iZ, if_neg (by simp; omega), List.append_nil]
 | k :: l, pre, n, q, S, ht, hq, hn, hd, hm => by
  obtain ⟨n, rfl⟩ : ∃ m, n = m + 1 := ⟨n - 1, by simp at hn; omega⟩
  have hlen : e.Kids.length = pre.length + (l.length + 1) := by rw [ht]; simp
  have hw : IntKind.wrap .i64 (q + 1) = q + 1 := Go.Bm.aS (by omega) (by omega)
  obtain ⟨y, hy, hyp⟩ := hm k (by simp)
  have hks : k ∉ S := fun h => by
   rw [List.nodup_append] at hd
   exact hd.2.2 k h k (by simp) rfl
  rw [iZ, if_pos (by simp; omega), jQ ht hq]
  simp only [Option.bind_some, hw, eN, jZ, hy, Ig hks, Option.getD_some, Option.isSome_some, Option.getD_none, hyp, bne_self_eq_false, Bool.not_true, Bool.or_self, Bool.not_false, gd, List.all_cons, List.all_nil, id, Bool.and_true, if_true, Option.isSome_none, Bool.or_false, show (default : Bool) = false from rfl, Bool.false_eq_true, if_false]
  rw [sI fun p hp' => by
   obtain ⟨x, hx, rfl⟩ := List.mem_map.1 hp'
   intro e'
   exact hks (e' ▸ hx)]
  rw [show Br S ++ [(k, true)] = Br (S ++ [k]) from by simp [Br]]
  rw [Mc e M j t w hz l (pre ++ [k]) n (q + 1) (S ++ [k]) (by rw [ht]; simp) (by simp; omega) (by simp at hn; omega) (by simpa using hd) (fun c hc => hm c (by simp [hc]))]
  simp
theorem Lt (t : bA) (M : List (Int × aP)) (j : List (Int × Bool) → Option ((List (Int × aP)) × Bool)) (hz : t.Nodes.length ≤ 1000) : ∀ (l pre : List aP) (n : Nat) (q : Int) (S : List Int), t.Nodes = pre ++ l → q = pre.length → l.length + 1000 < n → (S ++ l.flatMap aP.Kids).Nodup → (S ++ l.flatMap aP.Kids).length ≤ 900 → (∀ x, x ∈ l → ∀ k, k ∈ x.Kids → ∃ y, M.lookup k = some y ∧ y.Parent = x.ID) →
  gU t M j n q (Br S) = j (Br (S ++ l.flatMap aP.Kids))
 | [], pre, n, q, S, ht, hq, hn, hd, hl, hm => by
  obtain ⟨n, rfl⟩ : ∃ m, n = m + 1 := ⟨n - 1, by simp at hn; omega⟩
  have hlen : t.Nodes.length = pre.length := by rw [ht]; simp
  rw [gU, if_neg (by simp; omega)]
  simp
 | x :: l, pre, n, q, S, ht, hq, hn, hd, hl, hm => by
  obtain ⟨n, rfl⟩ : ∃ m, n = m + 1 := ⟨n - 1, by simp at hn; omega⟩
  have hlen : t.Nodes.length = pre.length + (l.length + 1) := by rw [ht]; simp
  have hw : IntKind.wrap .i64 (q + 1) = q + 1 := Go.Bm.aS (by omega) (by omega)
  rw [List.flatMap_cons] at hd hl ⊢
  rw [← List.append_assoc] at hd hl
  have hkl : x.Kids.length ≤ 900 := by simp at hl; omega
  rw [gU, if_pos (by simp; omega)]
  unfold aR
  rw [jQ ht hq]
  simp only [Option.bind_some, hw]
  rw [Mc x M _ t q (by omega) x.Kids [] n 0 S rfl rfl (by omega) (List.nodup_append.1 hd).1 (fun k hk => hm x (by simp) k hk)]
  rw [Lt t M j hz l (pre ++ [x]) n (q + 1) (S ++ x.Kids) (by rw [ht]; simp) (by simp; omega) (by simp at hn; omega) hd hl (fun y hy => hm y (by simp [hy]))]
  rw [List.append_assoc]
def Sub (M : List (Int × aP)) (i p : Int) (v : aG) : Prop := ∀ x, x ∈ vK i p v → M.lookup x.ID = some x
theorem Sub.kid {M : List (Int × aP)} {i p : Int} {v : aG} (h : Sub M i p v) {pre l : List aG} {k : aG} (hk : v.Kids = pre ++ k :: l) : Sub M (i + 1 + cA pre) i k := fun x hx => by
 refine h x ?_
 rw [mM, hk]
 have : ∀ (pre : List aG) (s : Int), x ∈ vK (s + cA pre) i k → x ∈ kO s i (pre ++ k :: l) := by
  intro pre
  induction pre with
  | nil => intro s hx; rw [List.nil_append, kO]; rw [cA] at hx; simp at hx; simp [hx]
  | cons v pre ih =>
   intro s hx
   rw [List.cons_append, kO]
   rw [cA] at hx
   refine List.mem_append_right _ (ih (s + gD v) ?_)
   rw [show s + (gD v : Int) + (cA pre : Int) = s + ((gD v + cA pre : Nat) : Int) by omega]
   exact hx
 exact List.mem_cons_of_mem _ (this pre (i + 1) hx)
theorem lI (a b : List aG) : cA (a ++ b) = cA a + cA b := by
 induction a with
 | nil => simp [cA]
 | cons v a ih => rw [List.cons_append, cA, cA, ih]; omega
theorem tE : ∀ (a b : List aG) (i : Int), rN i (a ++ b) = rN i a ++ rN (i + cA a) b
 | [], b, i => by simp [rN, cA]
 | v :: a, b, i => by
  rw [List.cons_append, rN, rN, tE a b, cA, List.cons_append]
  congr 3
  omega
theorem oO (l : List aG) : l.length ≤ cA l := by
 induction l with
 | nil => simp
 | cons v l ih => rw [cA, List.length_cons]; have := tJ v; omega
theorem Np (M : List (Int × aP)) (self : List (Int × aP) → Int → Option (List Int)) (v : aG) (i p : Int) (b : Bool) (j : List Int → Option (List Int)) (hz : gD v ≤ 1000) (hs : ∀ pre k l, v.Kids = pre ++ k :: l → self M (i + 1 + cA pre) = some (oC (i + 1 + cA pre) (gD k))) : ∀ (l pre : List aG) (n : Nat) (q : Int), v.Kids = pre ++ l → q = pre.length → l.length < n →
  fW (hd i p v, b) self M j n (oC i (1 + cA pre)) q = j (oC i (1 + cA v.Kids))
 | [], pre, n, q, ht, hq, hn => by
  obtain ⟨n, rfl⟩ : ∃ m, n = m + 1 := ⟨n - 1, by simp at hn; omega⟩
  have hlen : (hd i p v).Kids.length = pre.length := by show (rN _ _).length = _; rw [pL, ht]; simp
  rw [fW, if_neg (by simp only [hlen]; simp; omega), ht, List.append_nil]
 | k :: l, pre, n, q, ht, hq, hn => by
  obtain ⟨n, rfl⟩ : ∃ m, n = m + 1 := ⟨n - 1, by simp at hn; omega⟩
  have hlen : (hd i p v).Kids.length = pre.length + (l.length + 1) := by show (rN _ _).length = _; rw [pL, ht]; simp
  have hkl := oO v.Kids
  have hsz := lV v
  have hv : cA v.Kids = cA pre + (gD k + cA l) := by rw [ht, lI, cA]
  have hpl : pre.length ≤ 1000 := by have := oO pre; omega
  have hw : IntKind.wrap .i64 (q + 1) = q + 1 := Go.Bm.aS (by omega) (by omega)
  have hix : idx (hd i p v).Kids q = some (i + 1 + cA pre) := by
   refine jQ (pre := rN (i + 1) pre) (l := rN (i + 1 + cA pre + gD k) l) ?_ (by rw [pL]; exact hq)
   show rN (i + 1) v.Kids = _
   rw [ht, tE, rN]
  rw [fW, if_pos (by simp only [hlen]; simp; omega), hix]
  simp only [Option.bind_some]
  rw [hs pre k l ht]
  simp only [Option.bind_some, hw]
  rw [wX (by rw [lR, lR]; omega) (by decide)]
  simp only [Option.bind_some]
  have e : oC i (1 + cA pre) ++ oC (i + 1 + cA pre) (gD k) = oC i (1 + cA (pre ++ [k])) := by
   rw [lI, cA, cA, show 1 + (cA pre + (gD k + 0)) = (1 + cA pre) + gD k by omega, vU (1 + cA pre) (gD k) i, show i + ((1 + cA pre : Nat) : Int) = i + 1 + (cA pre : Int) by omega]
  rw [e]
  exact Np M self v i p b j hz hs l (pre ++ [k]) n (q + 1) (by rw [ht]; simp) (by simp; omega) (by simp at hn; omega)
theorem Bd (M : List (Int × aP)) (v : aG) : ∀ (n : Nat) (i p : Int), Sub M i p v → Fy v ≤ n → gD v ≤ 1000 → eV n M i = some (oC i (gD v)) := by
 induction v using kD with
 | h v ih =>
  intro n i p hM hn hz
  have hfu := xB v
  have hsz := lV v
  obtain ⟨n, rfl⟩ : ∃ m, n = m + 1 := ⟨n - 1, by omega⟩
  rw [eV, jT]
  unfold aR
  have hl : M.lookup i = some (hd i p v) := hM (hd i p v) (by rw [mM]; simp)
  simp only [eN, jZ, hl, Option.getD_some, Option.isSome_some, Option.bind_some]
  have := Np M (fun a0 a1 => eV n a0 a1) v i p true (fun v13 => some v13) hz (fun pre k l hk => by
   have hmem : k ∈ v.Kids := by rw [hk]; simp
   exact ih k hmem n _ i (hM.kid hk) (by have := qA hmem; omega) (by have := sJ hmem; omega)) v.Kids [] n 0 rfl rfl (by omega)
  rw [show oC i (1 + cA []) = [i] from rfl] at this
  exact this.trans (by rw [hsz])
theorem Hz (M : List (Int × aP)) (self : List (Int × aP) → Int → Option aG) (v : aG) (i p : Int) (b : Bool) (j : List aG → Option aG) (hz : gD v ≤ 1000) (hs : ∀ pre k l, v.Kids = pre ++ k :: l → self M (i + 1 + cA pre) = some k) : ∀ (l pre : List aG) (n : Nat) (q : Int), v.Kids = pre ++ l → q = pre.length → l.length < n →
  fA (hd i p v, b) self M j n q pre = j v.Kids
 | [], pre, n, q, ht, hq, hn => by
  obtain ⟨n, rfl⟩ : ∃ m, n = m + 1 := ⟨n - 1, by simp at hn; omega⟩
  have hlen : (hd i p v).Kids.length = pre.length := by show (rN _ _).length = _; rw [pL, ht]; simp
  rw [fA, if_neg (by simp only [hlen]; simp; omega), ht, List.append_nil]
 | k :: l, pre, n, q, ht, hq, hn => by
  obtain ⟨n, rfl⟩ : ∃ m, n = m + 1 := ⟨n - 1, by simp at hn; omega⟩
  have hlen : (hd i p v).Kids.length = pre.length + (l.length + 1) := by show (rN _ _).length = _; rw [pL, ht]; simp
  have hkl := oO v.Kids
  have hsz := lV v
  have hv : cA v.Kids = cA pre + (gD k + cA l) := by rw [ht, lI, cA]
  have hpl : pre.length ≤ 1000 := by have := oO pre; omega
  have hw : IntKind.wrap .i64 (q + 1) = q + 1 := Go.Bm.aS (by omega) (by omega)
  have hix : idx (hd i p v).Kids q = some (i + 1 + cA pre) := by
   refine jQ (pre := rN (i + 1) pre) (l := rN (i + 1 + cA pre + gD k) l) ?_ (by rw [pL]; exact hq)
   show rN (i + 1) v.Kids = _
   rw [ht, tE, rN]
  rw [fA, if_pos (by simp only [hlen]; simp; omega), hix]
  simp only [Option.bind_some]
  rw [hs pre k l ht]
  simp only [Option.bind_some, hw]
  rw [wX (by simp; omega) (by decide)]
  simp only [Option.bind_some]
  exact Hz M self v i p b j hz hs l (pre ++ [k]) n (q + 1) (by rw [ht]; simp) (by simp; omega) (by simp at hn; omega)
theorem Jm (M : List (Int × aP)) (v : aG) : ∀ (n : Nat) (i p : Int), Sub M i p v → Fy v ≤ n → gD v ≤ 1000 → gC n M i = some v := by
 induction v using kD with
 | h v ih =>
  intro n i p hM hn hz
  have hfu := xB v
  have hsz := lV v
  obtain ⟨n, rfl⟩ : ∃ m, n = m + 1 := ⟨n - 1, by omega⟩
  rw [gC, jF]
  unfold aR
  have hl : M.lookup i = some (hd i p v) := hM (hd i p v) (by rw [mM]; simp)
  simp only [eN, jZ, hl, Option.getD_some, Option.isSome_some, Option.bind_some]
  exact (Hz M (fun a0 a1 => gC n a0 a1) v i p true _ hz (fun pre k l hk => by
   have hmem : k ∈ v.Kids := by rw [hk]; simp
   exact ih k hmem n _ i (hM.kid hk) (by have := qA hmem; omega) (by have := sJ hmem; omega)) v.Kids [] n 0 rfl rfl (by omega)).trans (by cases v; rfl)
structure cT (t : bA) (v : aG) : Prop where
 root : 1 ≤ t.Root ∧ t.Root ≤ 1000000000
 next : t.Next = t.Root + gD v
 nodes : t.Nodes = vK t.Root 0 v
 size : gD v ≤ 400
theorem cT.nodup {t : bA} {v : aG} (h : cT t v) : (t.Nodes.map aP.ID).Nodup := by rw [h.nodes, Cj]; exact Ip _ _
theorem cT.sub {t : bA} {v : aG} (h : cT t v) : Sub (kE t.Nodes) t.Root 0 v := fun x hx => mQ h.nodup (by rw [h.nodes]; exact hx)
theorem Uf {t : bA} {v : aG} (h : cT t v) (n : Nat) (hn : Fy v + 3000 ≤ n) : qM n t = some (kE t.Nodes, true) := by
 obtain ⟨r1, r2⟩ := h.root
 have hnx := h.next
 have hsz := h.size
 have hp := tJ v
 have hlen : t.Nodes.length = gD v := by rw [h.nodes, Ix]
 unfold qM
 have c : ((((decide (t.Next < 2)) || (decide (t.Next > 1099511627776))) || (decide ((List.length t.Nodes : Int) < 1))) || (decide ((List.length t.Nodes : Int) > 400))) = false := by
  simp only [Bool.or_eq_false_iff, decide_eq_false_iff_not]
  omega
 rw [c]
 simp only [Bool.false_eq_true, if_false]
 unfold aR
 have g := Ld t (fun v10 => (some (eN t.Root v10, jZ t.Root v10)).bind fun (y11 : (aP × Bool)) => (if (!y11.2) = true then some (([] : List (Int × aP)), false) else (fun (j12 : List (Int × Bool) → Option ((List (Int × aP)) × Bool)) => gU t v10 j12 n 0 (iF t.Root true ([] : List (Int × Bool)))) fun (v43 : List (Int × Bool)) => (if ((List.length v43 : Int) != (List.length v10 : Int)) = true then some (([] : List (Int × aP)), false) else (eV n v10 t.Root).bind fun (y44 : (List Int)) => some (v10, ((List.length y44 : Int) == (List.length v10 : Int)))))) t.Nodes [] n 0 0 t.Root rfl rfl (by omega) (by rw [hlen, h.nodes, Cj]) (by omega) (fun x hx => nomatch hx) (fun x hx => by
  rw [h.nodes] at hx
  have h1 := xZ.1 (Cj v t.Root 0 ▸ List.mem_map.2 ⟨x, hx, rfl⟩ : x.ID ∈ oC t.Root (gD v))
  refine ⟨by omega, ?_⟩
  rcases Rm v t.Root 0 x hx with ⟨a, b⟩ | ⟨a, b, _⟩
  ·rw [a, b]; simp
  ·have e1 : (x.Parent == 0) = false := by rw [beq_eq_false_iff_ne]; omega
   have e2 : (x.ID == t.Root) = false := by rw [beq_eq_false_iff_ne]; omega
   rw [e1, e2]) (by omega)
 refine (show _ = _ from g).trans ?_
 have hl : (kE t.Nodes).lookup t.Root = some (hd t.Root 0 v) := h.sub (hd t.Root 0 v) (by rw [mM]; simp)
 simp only [eN, jZ, hl, Option.getD_some, Option.isSome_some, Option.bind_some, Bool.not_true, Bool.false_eq_true, if_false]
 obtain ⟨k1, k2, k3⟩ := Nv v t.Root 0
 have hnd : ([t.Root] ++ t.Nodes.flatMap aP.Kids).Nodup := by
  rw [h.nodes, List.singleton_append, List.nodup_cons]
  exact ⟨fun hm => by have := k2 _ hm; omega, k1⟩
 have hll : ([t.Root] ++ t.Nodes.flatMap aP.Kids).length = gD v := by
  rw [h.nodes, List.singleton_append, List.length_cons]; omega
 rw [show iF t.Root true ([] : List (Int × Bool)) = Br [t.Root] from rfl]
 rw [Lt t (kE t.Nodes) _ (by omega) t.Nodes [] n 0 [t.Root] rfl rfl (by omega) hnd (by omega) (fun x hx k hk => by
  rw [h.nodes] at hx
  obtain ⟨y, hy, e1, e2⟩ := Qc v t.Root 0 x k hx hk
  exact ⟨y, by rw [← e1]; exact h.sub y hy, e2⟩)]
 have e1 : (Br ([t.Root] ++ t.Nodes.flatMap aP.Kids)).length = gD v := by rw [Br, List.length_map, hll]
 have e2 : (kE t.Nodes).length = gD v := by rw [kE, List.length_map, hlen]
 simp only [e1, e2, bne_self_eq_false, Bool.false_eq_true, if_false]
 rw [Bd (kE t.Nodes) v n t.Root 0 h.sub (by omega) (by omega)]
 simp only [Option.bind_some, lR, beq_self_eq_true]
theorem Fc {t : bA} {v : aG} (h : cT t v) (n : Nat) (hn : Fy v + 3000 ≤ n) : lN n t = (kJ n v).bind fun y => some (kE t.Nodes, v, y) := by
 unfold lN
 rw [Uf h n hn]
 simp only [Option.bind_some, Bool.not_true, Bool.false_eq_true, if_false]
 rw [Jm (kE t.Nodes) v n t.Root 0 h.sub (by omega) (by have := h.size; omega)]
 rfl
end Go.Proofs.YtojkihhnioeggaaGreatDoor.S
