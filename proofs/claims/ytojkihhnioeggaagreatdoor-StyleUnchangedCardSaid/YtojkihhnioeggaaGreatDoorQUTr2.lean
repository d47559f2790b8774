import Derived.Test.YtojkihhnioeggaaGreatDoorQUTr1
import Derived.WalkKit
import Derived.WalkSpells
import Derived.WalkLawsBesides
import Derived.Deep.QuietTactic
import Derived.BigQuiet
import Derived.BigRegion
import Derived.Lib.Hide
import Derived.Deep.RegionWith
set_option linter.unusedSimpArgs false
set_option linter.unusedVariables false
set_option linter.unusedSimpArgs false
set_option linter.unusedVariables false
namespace Go.Proofs.YtojkihhnioeggaaGreatDoor.S
open Go Go.Bm
theorem jX {α : Type} {pre l : List α} {x : α} {q : Int} {L : List α} (hL : L = pre ++ x :: l) (hq : q = pre.length) : idx L q = some x := by
 unfold idx
 rw [if_pos (by omega), hq, Int.toNat_natCast, hL, List.getElem?_append_right (Nat.le_refl _), Nat.sub_self]
 rfl
theorem tV {α : Type} {b : Nat} {l els : List α} (h : l.length + els.length ≤ 100000) (hb : b ≤ 1000) : pD b l els = some (l ++ els) := by
 obtain ⟨r, hr, rfl⟩ := dV h hb
 exact hr
def nV : Int → Nat → List Int
 | _, 0 => []
 | i, n + 1 => i :: nV (i + 1) n
theorem wH : ∀ (n m : Nat) (i : Int), nV i (n + m) = nV i n ++ nV (i + n) m
 | 0, m, i => by simp [nV]
 | n + 1, m, i => by
  rw [show n + 1 + m = (n + m) + 1 by omega, nV, nV, wH n m (i + 1), List.cons_append]
  congr 3
  omega
theorem kB : ∀ (n : Nat) (i : Int), (nV i n).length = n
 | 0, _ => rfl
 | n + 1, i => by rw [nV, List.length_cons, kB]
theorem yR : ∀ {n : Nat} {i x : Int}, x ∈ nV i n ↔ i ≤ x ∧ x < i + n
 | 0, i, x => by simp [nV]
 | n + 1, i, x => by
  rw [nV, List.mem_cons, yR]
  constructor
  ·rintro (h | h) <;> omega
  ·intro h
   by_cases e : x = i
   ·exact .inl e
   ·exact .inr (by omega)
theorem Jn : ∀ (n : Nat) (i : Int), (nV i n).Nodup
 | 0, _ => .nil
 | n + 1, i => by
  rw [nV, List.nodup_cons]
  exact ⟨fun h => by have := (yR.1 h).1; omega, Jn n _⟩
theorem Bt : ∀ (l : List aJ), (∀ k, k ∈ l → ∀ i p, (vX i p k).map aP.ID = nV i (fW k)) → ∀ i p, (kT i p l).map aP.ID = nV i (cI l)
 | [], _, _, _ => rfl
 | v :: l, h, i, p => by
  rw [kT, cI, List.map_append, h v (by simp), Bt l (fun k hk => h k (by simp [hk])), wH]
theorem Cz (v : aJ) : ∀ i p, (vX i p v).map aP.ID = nV i (fW v) := by
 induction v using kL with
 | h v ih =>
  intro i p
  rw [mR, lZ, List.map_cons, Bt v.Kids ih, Nat.add_comm, nV]
  rfl
theorem Bj : ∀ (l : List aJ), (∀ k, k ∈ l → ∀ i p x, x ∈ vX i p k → (x.ID = i ∧ x.Parent = p) ∨ (i < x.ID ∧ i ≤ x.Parent ∧ x.Parent < x.ID)) → ∀ i p x, x ∈ kT i p l → i ≤ x.ID ∧ (x.Parent = p ∨ (i ≤ x.Parent ∧ x.Parent < x.ID))
 | [], _, _, _, _, h => nomatch h
 | v :: l, h, i, p, x, hx => by
  rw [kT, List.mem_append] at hx
  rcases hx with hx | hx
  ·rcases h v (by simp) i p x hx with ⟨a, b⟩ | ⟨a, b, c⟩
   ·exact ⟨by omega, .inl b⟩
   ·exact ⟨by omega, .inr ⟨b, c⟩⟩
  ·obtain ⟨a, b⟩ := Bj l (fun k hk => h k (by simp [hk])) _ p x hx
   refine ⟨by omega, ?_⟩
   rcases b with b | ⟨b, c⟩
   ·exact .inl b
   ·exact .inr ⟨by omega, c⟩
theorem So (v : aJ) : ∀ i p x, x ∈ vX i p v → (x.ID = i ∧ x.Parent = p) ∨ (i < x.ID ∧ i ≤ x.Parent ∧ x.Parent < x.ID) := by
 induction v using kL with
 | h v ih =>
  intro i p x hx
  rw [mR, List.mem_cons] at hx
  rcases hx with rfl | hx
  ·exact .inl ⟨rfl, rfl⟩
  ·obtain ⟨a, b⟩ := Bj v.Kids ih _ _ x hx
   rcases b with b | ⟨b, c⟩
   ·exact .inr ⟨by omega, by omega, by omega⟩
   ·exact .inr ⟨by omega, by omega, c⟩
theorem Nf : ∀ (l : List aJ) (s p k : Int), k ∈ rV s l → ∃ y, y ∈ kT s p l ∧ y.ID = k ∧ y.Parent = p
 | [], _, _, _, h => nomatch h
 | v :: l, s, p, k, h => by
  rw [rV, List.mem_cons] at h
  rw [kT]
  rcases h with rfl | h
  ·exact ⟨hd k p v, by rw [mR]; simp, rfl, rfl⟩
  ·obtain ⟨y, hy, h1, h2⟩ := Nf l _ p k h
   exact ⟨y, by simp [hy], h1, h2⟩
theorem Ce : ∀ (l : List aJ), (∀ k, k ∈ l → ∀ i p x c, x ∈ vX i p k → c ∈ x.Kids → ∃ y, y ∈ vX i p k ∧ y.ID = c ∧ y.Parent = x.ID) → ∀ i p x c, x ∈ kT i p l → c ∈ x.Kids → ∃ y, y ∈ kT i p l ∧ y.ID = c ∧ y.Parent = x.ID
 | [], _, _, _, _, _, h, _ => nomatch h
 | v :: l, h, i, p, x, c, hx, hc => by
  rw [kT] at hx ⊢
  rcases List.mem_append.1 hx with hx | hx
  ·obtain ⟨y, hy, h1⟩ := h v (by simp) i p x c hx hc
   exact ⟨y, by simp [hy], h1⟩
  ·obtain ⟨y, hy, h1⟩ := Ce l (fun k hk => h k (by simp [hk])) _ p x c hx hc
   exact ⟨y, by simp [hy], h1⟩
theorem Rc (v : aJ) : ∀ i p x c, x ∈ vX i p v → c ∈ x.Kids → ∃ y, y ∈ vX i p v ∧ y.ID = c ∧ y.Parent = x.ID := by
 induction v using kL with
 | h v ih =>
  intro i p x c hx hc
  rw [mR] at hx ⊢
  rcases List.mem_cons.1 hx with rfl | hx
  ·obtain ⟨y, hy, h1, h2⟩ := Nf v.Kids (i + 1) i c hc
   exact ⟨y, by simp [hy], h1, h2⟩
  ·obtain ⟨y, hy, h1⟩ := Ce v.Kids ih _ _ x c hx hc
   exact ⟨y, by simp [hy], h1⟩
theorem Fy : ∀ (l : List aJ), (∀ k, k ∈ l → ∀ i p, ((vX i p k).flatMap aP.Kids).Nodup ∧ (∀ c, c ∈ (vX i p k).flatMap aP.Kids → i < c ∧ c < i + fW k) ∧ ((vX i p k).flatMap aP.Kids).length + 1 = fW k) → ∀ s p,
  (rV s l ++ (kT s p l).flatMap aP.Kids).Nodup ∧ (∀ c, c ∈ rV s l ++ (kT s p l).flatMap aP.Kids → s ≤ c ∧ c < s + cI l) ∧ (rV s l ++ (kT s p l).flatMap aP.Kids).length = cI l
 | [], _, s, p => ⟨by simp [rV, kT], fun c hc => by simp [rV, kT] at hc, rfl⟩
 | v :: l, h, s, p => by
  obtain ⟨a1, a2, a3⟩ := h v (by simp) s p
  obtain ⟨b1, b2, b3⟩ := Fy l (fun k hk => h k (by simp [hk])) (s + fW v) p
  have hz := tY v
  rw [rV, kT, cI, List.flatMap_append, List.cons_append]
  have hp : (rV (s + fW v) l ++ ((vX s p v).flatMap aP.Kids ++ (kT (s + fW v) p l).flatMap aP.Kids)).Perm ((vX s p v).flatMap aP.Kids ++ (rV (s + fW v) l ++ (kT (s + fW v) p l).flatMap aP.Kids)) := List.perm_append_comm_assoc ..
  have hb : ∀ c, c ∈ (vX s p v).flatMap aP.Kids ++ (rV (s + fW v) l ++ (kT (s + fW v) p l).flatMap aP.Kids) → s < c ∧ c < s + (fW v + cI l : Nat) := fun c hc => by
   rcases List.mem_append.1 hc with hc | hc
   ·have := a2 c hc; omega
   ·have := b2 c hc; omega
  refine ⟨?_, fun c hc => ?_, ?_⟩
  ·rw [List.nodup_cons]
   refine ⟨fun hm => ?_, ?_⟩
   ·have := hb s (hp.mem_iff.1 hm); omega
   ·rw [hp.nodup_iff, List.nodup_append]
    refine ⟨a1, b1, fun x hx y hy e => ?_⟩
    have h1 := a2 x hx
    have h2 := b2 y hy
    omega
  ·rcases List.mem_cons.1 hc with rfl | hc
   ·omega
   ·have := hb c (hp.mem_iff.1 hc); omega
  ·rw [List.length_cons, hp.length_eq, List.length_append, b3]
   omega
theorem Ov (v : aJ) : ∀ i p, ((vX i p v).flatMap aP.Kids).Nodup ∧ (∀ c, c ∈ (vX i p v).flatMap aP.Kids → i < c ∧ c < i + fW v) ∧ ((vX i p v).flatMap aP.Kids).length + 1 = fW v := by
 induction v using kL with
 | h v ih =>
  intro i p
  obtain ⟨b1, b2, b3⟩ := Fy v.Kids ih (i + 1) i
  rw [mR, lZ, List.flatMap_cons]
  refine ⟨b1, fun c hc => ?_, ?_⟩
  ·have := b2 c hc; omega
  ·have e : ((hd i p v).Kids ++ (kT (i + 1) i v.Kids).flatMap aP.Kids).length = cI v.Kids := b3
   rw [e]; omega
def jZ (l : List aP) : List (Int × aP) := l.map fun x => (x.ID, x)
theorem Bw (a b : List aP) : jZ (a ++ b) = jZ a ++ jZ b := List.map_append
theorem kP : ∀ {l : List aP}, (l.map aP.ID).Nodup → ∀ {x : aP}, x ∈ l → (jZ l).lookup x.ID = some x
 | [], _, _, h => nomatch h
 | y :: l, hn, x, h => by
  rw [List.map_cons, List.nodup_cons] at hn
  unfold jZ
  rw [List.map_cons, List.lookup_cons]
  rcases List.mem_cons.1 h with rfl | h
  ·simp
  ·have : (x.ID == y.ID) = false := by
    rw [beq_eq_false_iff_ne]
    intro e
    exact hn.1 (e ▸ List.mem_map.2 ⟨x, h, rfl⟩)
   rw [this]
   exact kP hn.2 h
theorem qO {β : Type} {k : Int} {v : β} : ∀ {l : List (Int × β)}, (∀ p, p ∈ l → p.1 ≠ k) → fY k v l = l ++ [(k, v)]
 | [], _ => rfl
 | p :: l, h => by
  have : (p.1 == k) = false := by rw [beq_eq_false_iff_ne]; exact h p (by simp)
  rw [fY, this]
  simp only [Bool.false_eq_true, if_false, List.cons_append]
  rw [qO fun q hq => h q (by simp [hq])]
theorem Lw (t : bA) (j : List (Int × aP) → Option ((List (Int × aP)) × Bool)) : ∀ (l pre : List aP) (n : Nat) (last q s : Int), t.Nodes = pre ++ l → q = pre.length → l.length < n → l.map aP.ID = nV s l.length → last < s → (∀ x, x ∈ pre → x.ID < s) → (∀ x, x ∈ l → x.ID < t.Next ∧ ((x.Parent == 0) = (x.ID == t.Root))) → t.Nodes.length ≤ 1000 →
  jE t j n last q (jZ pre) = j (jZ t.Nodes)
 | [], pre, n, last, q, s, ht, hq, hn, hi, hl, hp, hx, hz => by
  obtain ⟨n, rfl⟩ : ∃ m, n = m + 1 := ⟨n - 1, by simp at hn; omega⟩
  have hlen : t.Nodes.length = pre.length := by rw [ht]; simp
  rw [jE, if_neg (by simp; omega), ht, List.append_nil]
 | x :: l, pre, n, last, q, s, ht, hq, hn, hi, hl, hp, hx, hz => by
  obtain ⟨n, rfl⟩ : ∃ m, n = m + 1 := ⟨n - 1, by simp at hn; omega⟩
  have hlen : t.Nodes.length = pre.length + (l.length + 1) := by rw [ht]; simp
  have hw : IntKind.wrap .i64 (q + 1) = q + 1 := Go.Bm.aT (by omega) (by omega)
  rw [List.map_cons, List.length_cons, nV] at hi
  injection hi with hi1 hi2
  obtain ⟨g1, g2⟩ := hx x (by simp)
  rw [jE, if_pos (by simp; omega), jX ht hq]
  simp only [Option.bind_some, hw]
  have c1 : decide (x.ID ≤ last) = false := by simp; omega
  have c2 : decide (x.ID ≥ t.Next) = false := by simp; omega
  rw [c1, c2, g2]
  simp only [Bool.or_self, bne_self_eq_false, Bool.false_eq_true, if_false]
  rw [qO fun p hp' => by
   obtain ⟨y, hy, rfl⟩ := List.mem_map.1 hp'
   have := hp y hy
   show y.ID ≠ x.ID
   omega]
  rw [show jZ pre ++ [(x.ID, x)] = jZ (pre ++ [x]) from (Bw pre [x]).symm]
  exact Lw t j l (pre ++ [x]) n x.ID (q + 1) (s + 1) (by rw [ht]; simp) (by simp; omega) (by simp at hn; omega) hi2 (by omega) (fun y hy => by
   rcases List.mem_append.1 hy with hy | hy
   ·have := hp y hy; omega
   ·simp only [List.mem_singleton] at hy; subst hy; omega) (fun y hy => hx y (by simp [hy])) hz
def Cj (l : List Int) : List (Int × Bool) := l.map fun k => (k, true)
theorem Jf {k : Int} : ∀ {l : List Int}, k ∉ l → (Cj l).lookup k = none
 | [], _ => rfl
 | x :: l, h => by
  have : (k == x) = false := by rw [beq_eq_false_iff_ne]; intro e; exact h (by simp [e])
  unfold Cj
  rw [List.map_cons, List.lookup_cons, this]
  exact Jf fun hk => h (by simp [hk])
theorem Mu (e : aP) (M : List (Int × aP)) (j : List (Int × Bool) → Option ((List (Int × aP)) × Bool)) (t : bA) (w : Int) (hz : e.Kids.length ≤ 1000) : ∀ (l pre : List Int) (n : Nat) (q : Int) (S : List Int), e.Kids = pre ++ l → q = pre.length → l.length < n → (S ++ l).Nodup → (∀ k, k ∈ l → ∃ y, M.lookup k = some y ∧ y.Parent = e.ID) →
  jC e M j t w n q (Cj S) = j (Cj (S ++ l))
 | [], pre, n, q, S, ht, hq, hn, hd, hm => by
  obtain ⟨n, rfl⟩ : ∃ m, n = m + 1 := ⟨n - 1, by simp at hn; omega⟩
  have hlen : e.Kids.length = pre.length := by rw [ht]; simp
  rw [jC, if_neg (by simp; omega), List.append_nil]
 | k :: l, pre, n, q, S, ht, hq, hn, hd, hm => by
  obtain ⟨n, rfl⟩ : ∃ m, n = m + 1 := ⟨n - 1, by simp at hn; omega⟩
  have hlen : e.Kids.length = pre.length + (l.length + 1) := by rw [ht]; simp
  have hw : IntKind.wrap .i64 (q + 1) = q + 1 := Go.Bm.aT (by omega) (by omega)
  obtain ⟨y, hy, hyp⟩ := hm k (by simp)
  have hks : k ∉ S := fun h => by
   rw [List.nodup_append] at hd
   exact hd.2.2 k h k (by simp) rfl
  rw [jC, if_pos (by simp; omega), jX ht hq]
  simp only [Option.bind_some, hw, cZ, gU, hy, Jf hks, Option.getD_some, Option.isSome_some, Option.getD_none, hyp, bne_self_eq_false, Bool.not_true, Bool.or_self, Bool.not_false, gd, List.all_cons, List.all_nil, id, Bool.and_true, if_true, Option.isSome_none, Bool.or_false, show (default : Bool) = false from rfl, Bool.false_eq_true, if_false]
  rw [qO fun p hp' => by
   obtain ⟨x, hx, rfl⟩ := List.mem_map.1 hp'
   intro e'
   exact hks (e' ▸ hx)]
  rw [show Cj S ++ [(k, true)] = Cj (S ++ [k]) from by simp [Cj]]
  rw [Mu e M j t w hz l (pre ++ [k]) n (q + 1) (S ++ [k]) (by rw [ht]; simp) (by simp; omega) (by simp at hn; omega) (by simpa using hd) (fun c hc => hm c (by simp [hc]))]
  simp
theorem Ml (t : bA) (M : List (Int × aP)) (j : List (Int × Bool) → Option ((List (Int × aP)) × Bool)) (hz : t.Nodes.length ≤ 1000) : ∀ (l pre : List aP) (n : Nat) (q : Int) (S : List Int), t.Nodes = pre ++ l → q = pre.length → l.length + 1000 < n → (S ++ l.flatMap aP.Kids).Nodup → (S ++ l.flatMap aP.Kids).length ≤ 900 → (∀ x, x ∈ l → ∀ k, k ∈ x.Kids → ∃ y, M.lookup k = some y ∧ y.Parent = x.ID) →
  hO t M j n q (Cj S) = j (Cj (S ++ l.flatMap aP.Kids))
 | [], pre, n, q, S, ht, hq, hn, hd, hl, hm => by
  obtain ⟨n, rfl⟩ : ∃ m, n = m + 1 := ⟨n - 1, by simp at hn; omega⟩
  have hlen : t.Nodes.length = pre.length := by rw [ht]; simp
  rw [hO, if_neg (by simp; omega)]
  simp
 | x :: l, pre, n, q, S, ht, hq, hn, hd, hl, hm => by
  obtain ⟨n, rfl⟩ : ∃ m, n = m + 1 := ⟨n - 1, by simp at hn; omega⟩
  have hlen : t.Nodes.length = pre.length + (l.length + 1) := by rw [ht]; simp
  have hw : IntKind.wrap .i64 (q + 1) = q + 1 := Go.Bm.aT (by omega) (by omega)
  rw [List.flatMap_cons] at hd hl ⊢
  rw [← List.append_assoc] at hd hl
  have hkl : x.Kids.length ≤ 900 := by simp at hl; omega
  rw [hO, if_pos (by simp; omega)]
  unfold aS
  rw [jX ht hq]
  simp only [Option.bind_some, hw]
  rw [Mu x M _ t q (by omega) x.Kids [] n 0 S rfl rfl (by omega) (List.nodup_append.1 hd).1 (fun k hk => hm x (by simp) k hk)]
  rw [Ml t M j hz l (pre ++ [x]) n (q + 1) (S ++ x.Kids) (by rw [ht]; simp) (by simp; omega) (by simp at hn; omega) hd hl (fun y hy => hm y (by simp [hy]))]
  rw [List.append_assoc]
def Sub (M : List (Int × aP)) (i p : Int) (v : aJ) : Prop := ∀ x, x ∈ vX i p v → M.lookup x.ID = some x
theorem Sub.kid {M : List (Int × aP)} {i p : Int} {v : aJ} (h : Sub M i p v) {pre l : List aJ} {k : aJ} (hk : v.Kids = pre ++ k :: l) : Sub M (i + 1 + cI pre) i k := fun x hx => by
 refine h x ?_
 rw [mR, hk]
 have : ∀ (pre : List aJ) (s : Int), x ∈ vX (s + cI pre) i k → x ∈ kT s i (pre ++ k :: l) := by
  intro pre
  induction pre with
  | nil => intro s hx; rw [List.nil_append, kT]; rw [cI] at hx; simp at hx; simp [hx]
  | cons v pre ih =>
   intro s hx
   rw [List.cons_append, kT]
   rw [cI] at hx
   refine List.mem_append_right _ (ih (s + fW v) ?_)
   rw [show s + (fW v : Int) + (cI pre : Int) = s + ((fW v + cI pre : Nat) : Int) by omega]
   exact hx
 exact List.mem_cons_of_mem _ (this pre (i + 1) hx)
theorem lL (a b : List aJ) : cI (a ++ b) = cI a + cI b := by
 induction a with
 | nil => simp [cI]
 | cons v a ih => rw [List.cons_append, cI, cI, ih]; omega
theorem tT : ∀ (a b : List aJ) (i : Int), rV i (a ++ b) = rV i a ++ rV (i + cI a) b
 | [], b, i => by simp [rV, cI]
 | v :: a, b, i => by
  rw [List.cons_append, rV, rV, tT a b, cI, List.cons_append]
  congr 3
  omega
theorem oW (l : List aJ) : l.length ≤ cI l := by
 induction l with
 | nil => simp
 | cons v l ih => rw [cI, List.length_cons]; have := tY v; omega
theorem Ok (M : List (Int × aP)) (self : List (Int × aP) → Int → Option (List Int)) (v : aJ) (i p : Int) (b : Bool) (j : List Int → Option (List Int)) (hz : fW v ≤ 1000) (hs : ∀ pre k l, v.Kids = pre ++ k :: l → self M (i + 1 + cI pre) = some (nV (i + 1 + cI pre) (fW k))) : ∀ (l pre : List aJ) (n : Nat) (q : Int), v.Kids = pre ++ l → q = pre.length → l.length < n →
  gD (hd i p v, b) self M j n (nV i (1 + cI pre)) q = j (nV i (1 + cI v.Kids))
 | [], pre, n, q, ht, hq, hn => by
  obtain ⟨n, rfl⟩ : ∃ m, n = m + 1 := ⟨n - 1, by simp at hn; omega⟩
  have hlen : (hd i p v).Kids.length = pre.length := by show (rV _ _).length = _; rw [pR, ht]; simp
  rw [gD, if_neg (by simp only [hlen]; simp; omega), ht, List.append_nil]
 | k :: l, pre, n, q, ht, hq, hn => by
  obtain ⟨n, rfl⟩ : ∃ m, n = m + 1 := ⟨n - 1, by simp at hn; omega⟩
  have hlen : (hd i p v).Kids.length = pre.length + (l.length + 1) := by show (rV _ _).length = _; rw [pR, ht]; simp
  have hkl := oW v.Kids
  have hsz := lZ v
  have hv : cI v.Kids = cI pre + (fW k + cI l) := by rw [ht, lL, cI]
  have hpl : pre.length ≤ 1000 := by have := oW pre; omega
  have hw : IntKind.wrap .i64 (q + 1) = q + 1 := Go.Bm.aT (by omega) (by omega)
  have hix : idx (hd i p v).Kids q = some (i + 1 + cI pre) := by
   refine jX (pre := rV (i + 1) pre) (l := rV (i + 1 + cI pre + fW k) l) ?_ (by rw [pR]; exact hq)
   show rV (i + 1) v.Kids = _
   rw [ht, tT, rV]
  rw [gD, if_pos (by simp only [hlen]; simp; omega), hix]
  simp only [Option.bind_some]
  rw [hs pre k l ht]
  simp only [Option.bind_some, hw]
  rw [tV (by rw [kB, kB]; omega) (by decide)]
  simp only [Option.bind_some]
  have e : nV i (1 + cI pre) ++ nV (i + 1 + cI pre) (fW k) = nV i (1 + cI (pre ++ [k])) := by
   rw [lL, cI, cI, show 1 + (cI pre + (fW k + 0)) = (1 + cI pre) + fW k by omega, wH (1 + cI pre) (fW k) i, show i + ((1 + cI pre : Nat) : Int) = i + 1 + (cI pre : Int) by omega]
  rw [e]
  exact Ok M self v i p b j hz hs l (pre ++ [k]) n (q + 1) (by rw [ht]; simp) (by simp; omega) (by simp at hn; omega)
theorem Bx (M : List (Int × aP)) (v : aJ) : ∀ (n : Nat) (i p : Int), Sub M i p v → Bn v ≤ n → fW v ≤ 1000 → fA n M i = some (nV i (fW v)) := by
 induction v using kL with
 | h v ih =>
  intro n i p hM hn hz
  have hfu := xT v
  have hsz := lZ v
  obtain ⟨n, rfl⟩ : ∃ m, n = m + 1 := ⟨n - 1, by omega⟩
  rw [fA, kC]
  unfold aS
  have hl : M.lookup i = some (hd i p v) := hM (hd i p v) (by rw [mR]; simp)
  simp only [cZ, gU, hl, Option.getD_some, Option.isSome_some, Option.bind_some]
  have := Ok M (fun a0 a1 => fA n a0 a1) v i p true (fun v13 => some v13) hz (fun pre k l hk => by
   have hmem : k ∈ v.Kids := by rw [hk]; simp
   exact ih k hmem n _ i (hM.kid hk) (by have := qG hmem; omega) (by have := sR hmem; omega)) v.Kids [] n 0 rfl rfl (by omega)
  rw [show nV i (1 + cI []) = [i] from rfl] at this
  exact this.trans (by rw [hsz])
theorem Iz (M : List (Int × aP)) (self : List (Int × aP) → Int → Option aJ) (v : aJ) (i p : Int) (b : Bool) (j : List aJ → Option aJ) (hz : fW v ≤ 1000) (hs : ∀ pre k l, v.Kids = pre ++ k :: l → self M (i + 1 + cI pre) = some k) : ∀ (l pre : List aJ) (n : Nat) (q : Int), v.Kids = pre ++ l → q = pre.length → l.length < n →
  fE (hd i p v, b) self M j n q pre = j v.Kids
 | [], pre, n, q, ht, hq, hn => by
  obtain ⟨n, rfl⟩ : ∃ m, n = m + 1 := ⟨n - 1, by simp at hn; omega⟩
  have hlen : (hd i p v).Kids.length = pre.length := by show (rV _ _).length = _; rw [pR, ht]; simp
  rw [fE, if_neg (by simp only [hlen]; simp; omega), ht, List.append_nil]
 | k :: l, pre, n, q, ht, hq, hn => by
  obtain ⟨n, rfl⟩ : ∃ m, n = m + 1 := ⟨n - 1, by simp at hn; omega⟩
  have hlen : (hd i p v).Kids.length = pre.length + (l.length + 1) := by show (rV _ _).length = _; rw [pR, ht]; simp
  have hkl := oW v.Kids
  have hsz := lZ v
  have hv : cI v.Kids = cI pre + (fW k + cI l) := by rw [ht, lL, cI]
  have hpl : pre.length ≤ 1000 := by have := oW pre; omega
  have hw : IntKind.wrap .i64 (q + 1) = q + 1 := Go.Bm.aT (by omega) (by omega)
  have hix : idx (hd i p v).Kids q = some (i + 1 + cI pre) := by
   refine jX (pre := rV (i + 1) pre) (l := rV (i + 1 + cI pre + fW k) l) ?_ (by rw [pR]; exact hq)
   show rV (i + 1) v.Kids = _
   rw [ht, tT, rV]
  rw [fE, if_pos (by simp only [hlen]; simp; omega), hix]
  simp only [Option.bind_some]
  rw [hs pre k l ht]
  simp only [Option.bind_some, hw]
  rw [tV (by simp; omega) (by decide)]
  simp only [Option.bind_some]
  exact Iz M self v i p b j hz hs l (pre ++ [k]) n (q + 1) (by rw [ht]; simp) (by simp; omega) (by simp at hn; omega)
theorem Kh (M : List (Int × aP)) (v : aJ) : ∀ (n : Nat) (i p : Int), Sub M i p v → Bn v ≤ n → fW v ≤ 1000 → gJ n M i = some v := by
 induction v using kL with
 | h v ih =>
  intro n i p hM hn hz
  have hfu := xT v
  have hsz := lZ v
  obtain ⟨n, rfl⟩ : ∃ m, n = m + 1 := ⟨n - 1, by omega⟩
  rw [gJ, jK]
  unfold aS
  have hl : M.lookup i = some (hd i p v) := hM (hd i p v) (by rw [mR]; simp)
  simp only [cZ, gU, hl, Option.getD_some, Option.isSome_some, Option.bind_some]
  exact (Iz M (fun a0 a1 => gJ n a0 a1) v i p true _ hz (fun pre k l hk => by
   have hmem : k ∈ v.Kids := by rw [hk]; simp
   exact ih k hmem n _ i (hM.kid hk) (by have := qG hmem; omega) (by have := sR hmem; omega)) v.Kids [] n 0 rfl rfl (by omega)).trans (by cases v; rfl)
structure cM (t : bA) (v : aJ) : Prop where
 root : 1 ≤ t.Root ∧ t.Root ≤ 1000000000
 next : t.Next = t.Root + fW v
 nodes : t.Nodes = vX t.Root 0 v
 size : fW v ≤ 400
theorem cM.nodup {t : bA} {v : aJ} (h : cM t v) : (t.Nodes.map aP.ID).Nodup := by rw [h.nodes, Cz]; exact Jn _ _
theorem cM.sub {t : bA} {v : aJ} (h : cM t v) : Sub (jZ t.Nodes) t.Root 0 v := fun x hx => kP h.nodup (by rw [h.nodes]; exact hx)
theorem Vf {t : bA} {v : aJ} (h : cM t v) (n : Nat) (hn : Bn v + 3000 ≤ n) : qR n t = some (jZ t.Nodes, true) := by
 obtain ⟨r1, r2⟩ := h.root
 have hnx := h.next
 have hsz := h.size
 have hp := tY v
 have hlen : t.Nodes.length = fW v := by rw [h.nodes, Ju]
 unfold qR
 have c : ((((decide (t.Next < 2)) || (decide (t.Next > 1099511627776))) || (decide ((List.length t.Nodes : Int) < 1))) || (decide ((List.length t.Nodes : Int) > 400))) = false := by
  simp only [Bool.or_eq_false_iff, decide_eq_false_iff_not]
  omega
 rw [c]
 simp only [Bool.false_eq_true, if_false]
 unfold aS
 have g := Lw t (fun v10 => (some (cZ t.Root v10, gU t.Root v10)).bind fun (y11 : (aP × Bool)) => (if (!y11.2) = true then some (([] : List (Int × aP)), false) else (fun (j12 : List (Int × Bool) → Option ((List (Int × aP)) × Bool)) => hO t v10 j12 n 0 (fY t.Root true ([] : List (Int × Bool)))) fun (v43 : List (Int × Bool)) => (if ((List.length v43 : Int) != (List.length v10 : Int)) = true then some (([] : List (Int × aP)), false) else (fA n v10 t.Root).bind fun (y44 : (List Int)) => some (v10, ((List.length y44 : Int) == (List.length v10 : Int)))))) t.Nodes [] n 0 0 t.Root rfl rfl (by omega) (by rw [hlen, h.nodes, Cz]) (by omega) (fun x hx => nomatch hx) (fun x hx => by
  rw [h.nodes] at hx
  have h1 := yR.1 (Cz v t.Root 0 ▸ List.mem_map.2 ⟨x, hx, rfl⟩ : x.ID ∈ nV t.Root (fW v))
  refine ⟨by omega, ?_⟩
  rcases So v t.Root 0 x hx with ⟨a, b⟩ | ⟨a, b, _⟩
  ·rw [a, b]; simp
  ·have e1 : (x.Parent == 0) = false := by rw [beq_eq_false_iff_ne]; omega
   have e2 : (x.ID == t.Root) = false := by rw [beq_eq_false_iff_ne]; omega
   rw [e1, e2]) (by omega)
 refine (show _ = _ from g).trans ?_
 have hl : (jZ t.Nodes).lookup t.Root = some (hd t.Root 0 v) := h.sub (hd t.Root 0 v) (by rw [mR]; simp)
 simp only [cZ, gU, hl, Option.getD_some, Option.isSome_some, Option.bind_some, Bool.not_true, Bool.false_eq_true, if_false]
 obtain ⟨k1, k2, k3⟩ := Ov v t.Root 0
 have hnd : ([t.Root] ++ t.Nodes.flatMap aP.Kids).Nodup := by
  rw [h.nodes, List.singleton_append, List.nodup_cons]
  exact ⟨fun hm => by have := k2 _ hm; omega, k1⟩
 have hll : ([t.Root] ++ t.Nodes.flatMap aP.Kids).length = fW v := by
  rw [h.nodes, List.singleton_append, List.length_cons]; omega
 rw [show fY t.Root true ([] : List (Int × Bool)) = Cj [t.Root] from rfl]
 rw [Ml t (jZ t.Nodes) _ (by omega) t.Nodes [] n 0 [t.Root] rfl rfl (by omega) hnd (by omega) (fun x hx k hk => by
  rw [h.nodes] at hx
  obtain ⟨y, hy, e1, e2⟩ := Rc v t.Root 0 x k hx hk
  exact ⟨y, by rw [← e1]; exact h.sub y hy, e2⟩)]
 have e1 : (Cj ([t.Root] ++ t.Nodes.flatMap aP.Kids)).length = fW v := by rw [Cj, List.length_map, hll]
 have e2 : (jZ t.Nodes).length = fW v := by rw [jZ, List.length_map, hlen]
 simp only [e1, e2, bne_self_eq_false, Bool.false_eq_true, if_false]
 rw [Bx (jZ t.Nodes) v n t.Root 0 h.sub (by omega) (by omega)]
 simp only [Option.bind_some, kB, beq_self_eq_true]
theorem Ga {t : bA} {v : aJ} (h : cM t v) (n : Nat) (hn : Bn v + 3000 ≤ n) : lR n t = (kQ n v).bind fun y => some (jZ t.Nodes, v, y) := by
 unfold lR
 rw [Vf h n hn]
 simp only [Option.bind_some, Bool.not_true, Bool.false_eq_true, if_false]
 rw [Kh (jZ t.Nodes) v n t.Root 0 h.sub (by omega) (by have := h.size; omega)]
 rfl
end Go.Proofs.YtojkihhnioeggaaGreatDoor.S
