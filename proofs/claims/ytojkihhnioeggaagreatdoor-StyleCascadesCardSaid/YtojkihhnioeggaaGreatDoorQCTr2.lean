import Derived.Test.YtojkihhnioeggaaGreatDoorQCTr1
import Derived.WalkKit
import Derived.WalkSpells
import Derived.WalkLawsBesides
import Derived.Deep.QuietTactic
import Derived.BigQuiet
import Derived.BigRegion
import Derived.Lib.Hide
import Derived.Deep.RegionWith
set_option linter.unusedSimpArgs false
set_option linter.unusedVariables false
set_option linter.unusedSimpArgs false
set_option linter.unusedVariables false
namespace Go.Proofs.YtojkihhnioeggaaGreatDoor.S
open Go Go.Bm
theorem kK {α : Type} {pre l : List α} {x : α} {q : Int} {L : List α} (hL : L = pre ++ x :: l) (hq : q = pre.length) : idx L q = some x := by
 unfold idx
 rw [if_pos (by omega), hq, Int.toNat_natCast, hL, List.getElem?_append_right (Nat.le_refl _), Nat.sub_self]
 rfl
theorem xV {α : Type} {b : Nat} {l els : List α} (h : l.length + els.length ≤ 100000) (hb : b ≤ 1000) : pV b l els = some (l ++ els) := by
 obtain ⟨r, hr, rfl⟩ := dU h hb
 exact hr
def oV : Int → Nat → List Int
 | _, 0 => []
 | i, n + 1 => i :: oV (i + 1) n
theorem wQ : ∀ (n m : Nat) (i : Int), oV i (n + m) = oV i n ++ oV (i + n) m
 | 0, m, i => by simp [oV]
 | n + 1, m, i => by
  rw [show n + 1 + m = (n + m) + 1 by omega, oV, oV, wQ n m (i + 1), List.cons_append]
  congr 3
  omega
theorem mJ : ∀ (n : Nat) (i : Int), (oV i n).length = n
 | 0, _ => rfl
 | n + 1, i => by rw [oV, List.length_cons, mJ]
theorem yW : ∀ {n : Nat} {i x : Int}, x ∈ oV i n ↔ i ≤ x ∧ x < i + n
 | 0, i, x => by simp [oV]
 | n + 1, i, x => by
  rw [oV, List.mem_cons, yW]
  constructor
  ·rintro (h | h) <;> omega
  ·intro h
   by_cases e : x = i
   ·exact .inl e
   ·exact .inr (by omega)
theorem Kb : ∀ (n : Nat) (i : Int), (oV i n).Nodup
 | 0, _ => .nil
 | n + 1, i => by
  rw [oV, List.nodup_cons]
  exact ⟨fun h => by have := (yW.1 h).1; omega, Kb n _⟩
theorem Cg : ∀ (l : List aL), (∀ k, k ∈ l → ∀ i p, (wE i p k).map aR.ID = oV i (gR k)) → ∀ i p, (lH i p l).map aR.ID = oV i (cI l)
 | [], _, _, _ => rfl
 | v :: l, h, i, p => by
  rw [lH, cI, List.map_append, h v (by simp), Cg l (fun k hk => h k (by simp [hk])), wQ]
theorem Dn (v : aL) : ∀ i p, (wE i p v).map aR.ID = oV i (gR v) := by
 induction v using kW with
 | h v ih =>
  intro i p
  rw [nC, mP, List.map_cons, Cg v.Kids ih, Nat.add_comm, oV]
  rfl
theorem Cb : ∀ (l : List aL), (∀ k, k ∈ l → ∀ i p x, x ∈ wE i p k → (x.ID = i ∧ x.Parent = p) ∨ (i < x.ID ∧ i ≤ x.Parent ∧ x.Parent < x.ID)) → ∀ i p x, x ∈ lH i p l → i ≤ x.ID ∧ (x.Parent = p ∨ (i ≤ x.Parent ∧ x.Parent < x.ID))
 | [], _, _, _, _, h => nomatch h
 | v :: l, h, i, p, x, hx => by
  rw [lH, List.mem_append] at hx
  rcases hx with hx | hx
  ·rcases h v (by simp) i p x hx with ⟨a, b⟩ | ⟨a, b, c⟩
   ·exact ⟨by omega, .inl b⟩
   ·exact ⟨by omega, .inr ⟨b, c⟩⟩
  ·obtain ⟨a, b⟩ := Cb l (fun k hk => h k (by simp [hk])) _ p x hx
   refine ⟨by omega, ?_⟩
   rcases b with b | ⟨b, c⟩
   ·exact .inl b
   ·exact .inr ⟨by omega, c⟩
theorem Ta (v : aL) : ∀ i p x, x ∈ wE i p v → (x.ID = i ∧ x.Parent = p) ∨ (i < x.ID ∧ i ≤ x.Parent ∧ x.Parent < x.ID) := by
 induction v using kW with
 | h v ih =>
  intro i p x hx
  rw [nC, List.mem_cons] at hx
  rcases hx with rfl | hx
  ·exact .inl ⟨rfl, rfl⟩
  ·obtain ⟨a, b⟩ := Cb v.Kids ih _ _ x hx
   rcases b with b | ⟨b, c⟩
   ·exact .inr ⟨by omega, by omega, by omega⟩
   ·exact .inr ⟨by omega, by omega, c⟩
theorem Ny : ∀ (l : List aL) (s p k : Int), k ∈ rY s l → ∃ y, y ∈ lH s p l ∧ y.ID = k ∧ y.Parent = p
 | [], _, _, _, h => nomatch h
 | v :: l, s, p, k, h => by
  rw [rY, List.mem_cons] at h
  rw [lH]
  rcases h with rfl | h
  ·exact ⟨hd k p v, by rw [nC]; simp, rfl, rfl⟩
  ·obtain ⟨y, hy, h1, h2⟩ := Ny l _ p k h
   exact ⟨y, by simp [hy], h1, h2⟩
theorem Cq : ∀ (l : List aL), (∀ k, k ∈ l → ∀ i p x c, x ∈ wE i p k → c ∈ x.Kids → ∃ y, y ∈ wE i p k ∧ y.ID = c ∧ y.Parent = x.ID) → ∀ i p x c, x ∈ lH i p l → c ∈ x.Kids → ∃ y, y ∈ lH i p l ∧ y.ID = c ∧ y.Parent = x.ID
 | [], _, _, _, _, _, h, _ => nomatch h
 | v :: l, h, i, p, x, c, hx, hc => by
  rw [lH] at hx ⊢
  rcases List.mem_append.1 hx with hx | hx
  ·obtain ⟨y, hy, h1⟩ := h v (by simp) i p x c hx hc
   exact ⟨y, by simp [hy], h1⟩
  ·obtain ⟨y, hy, h1⟩ := Cq l (fun k hk => h k (by simp [hk])) _ p x c hx hc
   exact ⟨y, by simp [hy], h1⟩
theorem Rt (v : aL) : ∀ i p x c, x ∈ wE i p v → c ∈ x.Kids → ∃ y, y ∈ wE i p v ∧ y.ID = c ∧ y.Parent = x.ID := by
 induction v using kW with
 | h v ih =>
  intro i p x c hx hc
  rw [nC] at hx ⊢
  rcases List.mem_cons.1 hx with rfl | hx
  ·obtain ⟨y, hy, h1, h2⟩ := Ny v.Kids (i + 1) i c hc
   exact ⟨y, by simp [hy], h1, h2⟩
  ·obtain ⟨y, hy, h1⟩ := Cq v.Kids ih _ _ x c hx hc
   exact ⟨y, by simp [hy], h1⟩
theorem Gn : ∀ (l : List aL), (∀ k, k ∈ l → ∀ i p, ((wE i p k).flatMap aR.Kids).Nodup ∧ (∀ c, c ∈ (wE i p k).flatMap aR.Kids → i < c ∧ c < i + gR k) ∧ ((wE i p k).flatMap aR.Kids).length + 1 = gR k) → ∀ s p,
  (rY s l ++ (lH s p l).flatMap aR.Kids).Nodup ∧ (∀ c, c ∈ rY s l ++ (lH s p l).flatMap aR.Kids → s ≤ c ∧ c < s + cI l) ∧ (rY s l ++ (lH s p l).flatMap aR.Kids).length = cI l
 | [], _, s, p => ⟨by simp [rY, lH], fun c hc => by simp [rY, lH] at hc, rfl⟩
 | v :: l, h, s, p => by
  obtain ⟨a1, a2, a3⟩ := h v (by simp) s p
  obtain ⟨b1, b2, b3⟩ := Gn l (fun k hk => h k (by simp [hk])) (s + gR v) p
  have hz := tY v
  rw [rY, lH, cI, List.flatMap_append, List.cons_append]
  have hp : (rY (s + gR v) l ++ ((wE s p v).flatMap aR.Kids ++ (lH (s + gR v) p l).flatMap aR.Kids)).Perm ((wE s p v).flatMap aR.Kids ++ (rY (s + gR v) l ++ (lH (s + gR v) p l).flatMap aR.Kids)) := List.perm_append_comm_assoc ..
  have hb : ∀ c, c ∈ (wE s p v).flatMap aR.Kids ++ (rY (s + gR v) l ++ (lH (s + gR v) p l).flatMap aR.Kids) → s < c ∧ c < s + (gR v + cI l : Nat) := fun c hc => by
   rcases List.mem_append.1 hc with hc | hc
   ·have := a2 c hc; omega
   ·have := b2 c hc; omega
  refine ⟨?_, fun c hc => ?_, ?_⟩
  ·rw [List.nodup_cons]
   refine ⟨fun hm => ?_, ?_⟩
   ·have := hb s (hp.mem_iff.1 hm); omega
   ·rw [hp.nodup_iff, List.nodup_append]
    refine ⟨a1, b1, fun x hx y hy e => ?_⟩
    have h1 := a2 x hx
    have h2 := b2 y hy
    omega
  ·rcases List.mem_cons.1 hc with rfl | hc
   ·omega
   ·have := hb c (hp.mem_iff.1 hc); omega
  ·rw [List.length_cons, hp.length_eq, List.length_append, b3]
   omega
theorem Pl (v : aL) : ∀ i p, ((wE i p v).flatMap aR.Kids).Nodup ∧ (∀ c, c ∈ (wE i p v).flatMap aR.Kids → i < c ∧ c < i + gR v) ∧ ((wE i p v).flatMap aR.Kids).length + 1 = gR v := by
 induction v using kW with
 | h v ih =>
  intro i p
  obtain ⟨b1, b2, b3⟩ := Gn v.Kids ih (i + 1) i
  rw [nC, mP, List.flatMap_cons]
  refine ⟨b1, fun c hc => ?_, ?_⟩
  ·have := b2 c hc; omega
  ·have e : ((hd i p v).Kids ++ (lH (i + 1) i v.Kids).flatMap aR.Kids).length = cI v.Kids := b3
   rw [e]; omega
def kX (l : List aR) : List (Int × aR) := l.map fun x => (x.ID, x)
theorem Ck (a b : List aR) : kX (a ++ b) = kX a ++ kX b := List.map_append
theorem nI : ∀ {l : List aR}, (l.map aR.ID).Nodup → ∀ {x : aR}, x ∈ l → (kX l).lookup x.ID = some x
 | [], _, _, h => nomatch h
 | y :: l, hn, x, h => by
  rw [List.map_cons, List.nodup_cons] at hn
  unfold kX
  rw [List.map_cons, List.lookup_cons]
  rcases List.mem_cons.1 h with rfl | h
  ·simp
  ·have : (x.ID == y.ID) = false := by
    rw [beq_eq_false_iff_ne]
    intro e
    exact hn.1 (e ▸ List.mem_map.2 ⟨x, h, rfl⟩)
   rw [this]
   exact nI hn.2 h
theorem sU {β : Type} {k : Int} {v : β} : ∀ {l : List (Int × β)}, (∀ p, p ∈ l → p.1 ≠ k) → iU k v l = l ++ [(k, v)]
 | [], _ => rfl
 | p :: l, h => by
  have : (p.1 == k) = false := by rw [beq_eq_false_iff_ne]; exact h p (by simp)
  rw [iU, this]
  simp only [Bool.false_eq_true, if_false, List.cons_append]
  rw [sU fun q hq => h q (by simp [hq])]
theorem Mq (t : bB) (j : List (Int × aR) → Option ((List (Int × aR)) × Bool)) : ∀ (l pre : List aR) (n : Nat) (last q s : Int), t.Nodes = pre ++ l → q = pre.length → l.length < n → l.map aR.ID = oV s l.length → last < s → (∀ x, x ∈ pre → x.ID < s) → (∀ x, x ∈ l → x.ID < t.Next ∧ ((x.Parent == 0) = (x.ID == t.Root))) → t.Nodes.length ≤ 1000 →
  jM t j n last q (kX pre) = j (kX t.Nodes)
 | [], pre, n, last, q, s, ht, hq, hn, hi, hl, hp, hx, hz => by
  obtain ⟨n, rfl⟩ : ∃ m, n = m + 1 := ⟨n - 1, by simp at hn; omega⟩
  have hlen : t.Nodes.length = pre.length := by rw [ht]; simp
  rw [jM, if_neg (by simp; omega), ht, List.append_nil]
 | x :: l, pre, n, last, q, s, ht, hq, hn, hi, hl, hp, hx, hz => by
  obtain ⟨n, rfl⟩ : ∃ m, n = m + 1 := ⟨n - 1, by simp at hn; omega⟩
  have hlen : t.Nodes.length = pre.length + (l.length + 1) := by rw [ht]; simp
  have hw : IntKind.wrap .i64 (q + 1) = q + 1 := Go.Bm.aU (by omega) (by omega)
  rw [List.map_cons, List.length_cons, oV] at hi
  injection hi with hi1 hi2
  obtain ⟨g1, g2⟩ := hx x (by simp)
  rw [jM, if_pos (by simp; omega), kK ht hq]
  simp only [Option.bind_some, hw]
  have c1 : decide (x.ID ≤ last) = false := by simp; omega
  have c2 : decide (x.ID ≥ t.Next) = false := by simp; omega
  rw [c1, c2, g2]
  simp only [Bool.or_self, bne_self_eq_false, Bool.false_eq_true, if_false]
  rw [sU fun p hp' => by
   obtain ⟨y, hy, rfl⟩ := List.mem_map.1 hp'
   have := hp y hy
   show y.ID ≠ x.ID
   omega]
  rw [show kX pre ++ [(x.ID, x)] = kX (pre ++ [x]) from (Ck pre [x]).symm]
  exact Mq t j l (pre ++ [x]) n x.ID (q + 1) (s + 1) (by rw [ht]; simp) (by simp; omega) (by simp at hn; omega) hi2 (by omega) (fun y hy => by
   rcases List.mem_append.1 hy with hy | hy
   ·have := hp y hy; omega
   ·simp only [List.mem_singleton] at hy; subst hy; omega) (fun y hy => hx y (by simp [hy])) hz
def Cv (l : List Int) : List (Int × Bool) := l.map fun k => (k, true)
theorem Js {k : Int} : ∀ {l : List Int}, k ∉ l → (Cv l).lookup k = none
 | [], _ => rfl
 | x :: l, h => by
  have : (k == x) = false := by rw [beq_eq_false_iff_ne]; intro e; exact h (by simp [e])
  unfold Cv
  rw [List.map_cons, List.lookup_cons, this]
  exact Js fun hk => h (by simp [hk])
theorem Nn (e : aR) (M : List (Int × aR)) (j : List (Int × Bool) → Option ((List (Int × aR)) × Bool)) (t : bB) (w : Int) (hz : e.Kids.length ≤ 1000) : ∀ (l pre : List Int) (n : Nat) (q : Int) (S : List Int), e.Kids = pre ++ l → q = pre.length → l.length < n → (S ++ l).Nodup → (∀ k, k ∈ l → ∃ y, M.lookup k = some y ∧ y.Parent = e.ID) →
  jK e M j t w n q (Cv S) = j (Cv (S ++ l))
 | [], pre, n, q, S, ht, hq, hn, hd, hm => by
  obtain ⟨n, rfl⟩ : ∃ m, n = m + 1 := ⟨n - 1, by simp at hn; omega⟩
  have hlen : e.Kids.length = pre.length := by rw [ht]; simp
  rw [jK, if_neg (by simp; omega), List.append_nil]
 | k :: l, pre, n, q, S, ht, hq, hn, hd, hm => by
  obtain ⟨n, rfl⟩ : ∃ m, n = m + 1 := ⟨n - 1, by simp at hn; omega⟩
  have hlen : e.Kids.length = pre.length + (l.length + 1) := by rw [ht]; simp
  have hw : IntKind.wrap .i64 (q + 1) = q + 1 := Go.Bm.aU (by omega) (by omega)
  obtain ⟨y, hy, hyp⟩ := hm k (by simp)
  have hks : k ∉ S := fun h => by
   rw [List.nodup_append] at hd
   exact hd.2.2 k h k (by simp) rfl
  rw [jK, if_pos (by simp; omega), kK ht hq]
  simp only [Option.bind_some, hw, eO, kU, hy, Js hks, Option.getD_some, Option.isSome_some, Option.getD_none, hyp, bne_self_eq_false, Bool.not_true, Bool.or_self, Bool.not_false, gd, List.all_cons, List.all_nil, id, Bool.and_true, if_true, Option.isSome_none, Bool.or_false, show (default : Bool) = false from rfl, Bool.false_eq_true, if_false]
  rw [sU fun p hp' => by
   obtain ⟨x, hx, rfl⟩ := List.mem_map.1 hp'
   intro e'
   exact hks (e' ▸ hx)]
  rw [show Cv S ++ [(k, true)] = Cv (S ++ [k]) from by simp [Cv]]
  rw [Nn e M j t w hz l (pre ++ [k]) n (q + 1) (S ++ [k]) (by rw [ht]; simp) (by simp; omega) (by simp at hn; omega) (by simpa using hd) (fun c hc => hm c (by simp [hc]))]
  simp
theorem Nf (t : bB) (M : List (Int × aR)) (j : List (Int × Bool) → Option ((List (Int × aR)) × Bool)) (hz : t.Nodes.length ≤ 1000) : ∀ (l pre : List aR) (n : Nat) (q : Int) (S : List Int), t.Nodes = pre ++ l → q = pre.length → l.length + 1000 < n → (S ++ l.flatMap aR.Kids).Nodup → (S ++ l.flatMap aR.Kids).length ≤ 900 → (∀ x, x ∈ l → ∀ k, k ∈ x.Kids → ∃ y, M.lookup k = some y ∧ y.Parent = x.ID) →
  iF t M j n q (Cv S) = j (Cv (S ++ l.flatMap aR.Kids))
 | [], pre, n, q, S, ht, hq, hn, hd, hl, hm => by
  obtain ⟨n, rfl⟩ : ∃ m, n = m + 1 := ⟨n - 1, by simp at hn; omega⟩
  have hlen : t.Nodes.length = pre.length := by rw [ht]; simp
  rw [iF, if_neg (by simp; omega)]
  simp
 | x :: l, pre, n, q, S, ht, hq, hn, hd, hl, hm => by
  obtain ⟨n, rfl⟩ : ∃ m, n = m + 1 := ⟨n - 1, by simp at hn; omega⟩
  have hlen : t.Nodes.length = pre.length + (l.length + 1) := by rw [ht]; simp
  have hw : IntKind.wrap .i64 (q + 1) = q + 1 := Go.Bm.aU (by omega) (by omega)
  rw [List.flatMap_cons] at hd hl ⊢
  rw [← List.append_assoc] at hd hl
  have hkl : x.Kids.length ≤ 900 := by simp at hl; omega
  rw [iF, if_pos (by simp; omega)]
  unfold aS
  rw [kK ht hq]
  simp only [Option.bind_some, hw]
  rw [Nn x M _ t q (by omega) x.Kids [] n 0 S rfl rfl (by omega) (List.nodup_append.1 hd).1 (fun k hk => hm x (by simp) k hk)]
  rw [Nf t M j hz l (pre ++ [x]) n (q + 1) (S ++ x.Kids) (by rw [ht]; simp) (by simp; omega) (by simp at hn; omega) hd hl (fun y hy => hm y (by simp [hy]))]
  rw [List.append_assoc]
def Sub (M : List (Int × aR)) (i p : Int) (v : aL) : Prop := ∀ x, x ∈ wE i p v → M.lookup x.ID = some x
theorem Sub.kid {M : List (Int × aR)} {i p : Int} {v : aL} (h : Sub M i p v) {pre l : List aL} {k : aL} (hk : v.Kids = pre ++ k :: l) : Sub M (i + 1 + cI pre) i k := fun x hx => by
 refine h x ?_
 rw [nC, hk]
 have : ∀ (pre : List aL) (s : Int), x ∈ wE (s + cI pre) i k → x ∈ lH s i (pre ++ k :: l) := by
  intro pre
  induction pre with
  | nil => intro s hx; rw [List.nil_append, lH]; rw [cI] at hx; simp at hx; simp [hx]
  | cons v pre ih =>
   intro s hx
   rw [List.cons_append, lH]
   rw [cI] at hx
   refine List.mem_append_right _ (ih (s + gR v) ?_)
   rw [show s + (gR v : Int) + (cI pre : Int) = s + ((gR v + cI pre : Nat) : Int) by omega]
   exact hx
 exact List.mem_cons_of_mem _ (this pre (i + 1) hx)
theorem lY (a b : List aL) : cI (a ++ b) = cI a + cI b := by
 induction a with
 | nil => simp [cI]
 | cons v a ih => rw [List.cons_append, cI, cI, ih]; omega
theorem tT : ∀ (a b : List aL) (i : Int), rY i (a ++ b) = rY i a ++ rY (i + cI a) b
 | [], b, i => by simp [rY, cI]
 | v :: a, b, i => by
  rw [List.cons_append, rY, rY, tT a b, cI, List.cons_append]
  congr 3
  omega
theorem pK (l : List aL) : l.length ≤ cI l := by
 induction l with
 | nil => simp
 | cons v l ih => rw [cI, List.length_cons]; have := tY v; omega
theorem Pg (M : List (Int × aR)) (self : List (Int × aR) → Int → Option (List Int)) (v : aL) (i p : Int) (b : Bool) (j : List Int → Option (List Int)) (hz : gR v ≤ 1000) (hs : ∀ pre k l, v.Kids = pre ++ k :: l → self M (i + 1 + cI pre) = some (oV (i + 1 + cI pre) (gR k))) : ∀ (l pre : List aL) (n : Nat) (q : Int), v.Kids = pre ++ l → q = pre.length → l.length < n →
  gI (hd i p v, b) self M j n (oV i (1 + cI pre)) q = j (oV i (1 + cI v.Kids))
 | [], pre, n, q, ht, hq, hn => by
  obtain ⟨n, rfl⟩ : ∃ m, n = m + 1 := ⟨n - 1, by simp at hn; omega⟩
  have hlen : (hd i p v).Kids.length = pre.length := by show (rY _ _).length = _; rw [qA, ht]; simp
  rw [gI, if_neg (by simp only [hlen]; simp; omega), ht, List.append_nil]
 | k :: l, pre, n, q, ht, hq, hn => by
  obtain ⟨n, rfl⟩ : ∃ m, n = m + 1 := ⟨n - 1, by simp at hn; omega⟩
  have hlen : (hd i p v).Kids.length = pre.length + (l.length + 1) := by show (rY _ _).length = _; rw [qA, ht]; simp
  have hkl := pK v.Kids
  have hsz := mP v
  have hv : cI v.Kids = cI pre + (gR k + cI l) := by rw [ht, lY, cI]
  have hpl : pre.length ≤ 1000 := by have := pK pre; omega
  have hw : IntKind.wrap .i64 (q + 1) = q + 1 := Go.Bm.aU (by omega) (by omega)
  have hix : idx (hd i p v).Kids q = some (i + 1 + cI pre) := by
   refine kK (pre := rY (i + 1) pre) (l := rY (i + 1 + cI pre + gR k) l) ?_ (by rw [qA]; exact hq)
   show rY (i + 1) v.Kids = _
   rw [ht, tT, rY]
  rw [gI, if_pos (by simp only [hlen]; simp; omega), hix]
  simp only [Option.bind_some]
  rw [hs pre k l ht]
  simp only [Option.bind_some, hw]
  rw [xV (by rw [mJ, mJ]; omega) (by decide)]
  simp only [Option.bind_some]
  have e : oV i (1 + cI pre) ++ oV (i + 1 + cI pre) (gR k) = oV i (1 + cI (pre ++ [k])) := by
   rw [lY, cI, cI, show 1 + (cI pre + (gR k + 0)) = (1 + cI pre) + gR k by omega, wQ (1 + cI pre) (gR k) i, show i + ((1 + cI pre : Nat) : Int) = i + 1 + (cI pre : Int) by omega]
  rw [e]
  exact Pg M self v i p b j hz hs l (pre ++ [k]) n (q + 1) (by rw [ht]; simp) (by simp; omega) (by simp at hn; omega)
theorem Cl (M : List (Int × aR)) (v : aL) : ∀ (n : Nat) (i p : Int), Sub M i p v → Hh v ≤ n → gR v ≤ 1000 → fA n M i = some (oV i (gR v)) := by
 induction v using kW with
 | h v ih =>
  intro n i p hM hn hz
  have hfu := xY v
  have hsz := mP v
  obtain ⟨n, rfl⟩ : ∃ m, n = m + 1 := ⟨n - 1, by omega⟩
  rw [fA, kP]
  unfold aS
  have hl : M.lookup i = some (hd i p v) := hM (hd i p v) (by rw [nC]; simp)
  simp only [eO, kU, hl, Option.getD_some, Option.isSome_some, Option.bind_some]
  have := Pg M (fun a0 a1 => fA n a0 a1) v i p true (fun v13 => some v13) hz (fun pre k l hk => by
   have hmem : k ∈ v.Kids := by rw [hk]; simp
   exact ih k hmem n _ i (hM.kid hk) (by have := qS hmem; omega) (by have := sV hmem; omega)) v.Kids [] n 0 rfl rfl (by omega)
  rw [show oV i (1 + cI []) = [i] from rfl] at this
  exact this.trans (by rw [hsz])
theorem Jm (M : List (Int × aR)) (self : List (Int × aR) → Int → Option aL) (v : aL) (i p : Int) (b : Bool) (j : List aL → Option aL) (hz : gR v ≤ 1000) (hs : ∀ pre k l, v.Kids = pre ++ k :: l → self M (i + 1 + cI pre) = some k) : ∀ (l pre : List aL) (n : Nat) (q : Int), v.Kids = pre ++ l → q = pre.length → l.length < n →
  fF (hd i p v, b) self M j n q pre = j v.Kids
 | [], pre, n, q, ht, hq, hn => by
  obtain ⟨n, rfl⟩ : ∃ m, n = m + 1 := ⟨n - 1, by simp at hn; omega⟩
  have hlen : (hd i p v).Kids.length = pre.length := by show (rY _ _).length = _; rw [qA, ht]; simp
  rw [fF, if_neg (by simp only [hlen]; simp; omega), ht, List.append_nil]
 | k :: l, pre, n, q, ht, hq, hn => by
  obtain ⟨n, rfl⟩ : ∃ m, n = m + 1 := ⟨n - 1, by simp at hn; omega⟩
  have hlen : (hd i p v).Kids.length = pre.length + (l.length + 1) := by show (rY _ _).length = _; rw [qA, ht]; simp
  have hkl := pK v.Kids
  have hsz := mP v
  have hv : cI v.Kids = cI pre + (gR k + cI l) := by rw [ht, lY, cI]
  have hpl : pre.length ≤ 1000 := by have := pK pre; omega
  have hw : IntKind.wrap .i64 (q + 1) = q + 1 := Go.Bm.aU (by omega) (by omega)
  have hix : idx (hd i p v).Kids q = some (i + 1 + cI pre) := by
   refine kK (pre := rY (i + 1) pre) (l := rY (i + 1 + cI pre + gR k) l) ?_ (by rw [qA]; exact hq)
   show rY (i + 1) v.Kids = _
   rw [ht, tT, rY]
  rw [fF, if_pos (by simp only [hlen]; simp; omega), hix]
  simp only [Option.bind_some]
  rw [hs pre k l ht]
  simp only [Option.bind_some, hw]
  rw [xV (by simp; omega) (by decide)]
  simp only [Option.bind_some]
  exact Jm M self v i p b j hz hs l (pre ++ [k]) n (q + 1) (by rw [ht]; simp) (by simp; omega) (by simp at hn; omega)
theorem Ky (M : List (Int × aR)) (v : aL) : ∀ (n : Nat) (i p : Int), Sub M i p v → Hh v ≤ n → gR v ≤ 1000 → gP n M i = some v := by
 induction v using kW with
 | h v ih =>
  intro n i p hM hn hz
  have hfu := xY v
  have hsz := mP v
  obtain ⟨n, rfl⟩ : ∃ m, n = m + 1 := ⟨n - 1, by omega⟩
  rw [gP, jT]
  unfold aS
  have hl : M.lookup i = some (hd i p v) := hM (hd i p v) (by rw [nC]; simp)
  simp only [eO, kU, hl, Option.getD_some, Option.isSome_some, Option.bind_some]
  exact (Jm M (fun a0 a1 => gP n a0 a1) v i p true _ hz (fun pre k l hk => by
   have hmem : k ∈ v.Kids := by rw [hk]; simp
   exact ih k hmem n _ i (hM.kid hk) (by have := qS hmem; omega) (by have := sV hmem; omega)) v.Kids [] n 0 rfl rfl (by omega)).trans (by cases v; rfl)
structure cV (t : bB) (v : aL) : Prop where
 root : 1 ≤ t.Root ∧ t.Root ≤ 1000000000
 next : t.Next = t.Root + gR v
 nodes : t.Nodes = wE t.Root 0 v
 size : gR v ≤ 400
theorem cV.nodup {t : bB} {v : aL} (h : cV t v) : (t.Nodes.map aR.ID).Nodup := by rw [h.nodes, Dn]; exact Kb _ _
theorem cV.sub {t : bB} {v : aL} (h : cV t v) : Sub (kX t.Nodes) t.Root 0 v := fun x hx => nI h.nodup (by rw [h.nodes]; exact hx)
theorem Vr {t : bB} {v : aL} (h : cV t v) (n : Nat) (hn : Hh v + 3000 ≤ n) : rD n t = some (kX t.Nodes, true) := by
 obtain ⟨r1, r2⟩ := h.root
 have hnx := h.next
 have hsz := h.size
 have hp := tY v
 have hlen : t.Nodes.length = gR v := by rw [h.nodes, Ki]
 unfold rD
 have c : ((((decide (t.Next < 2)) || (decide (t.Next > 1099511627776))) || (decide ((List.length t.Nodes : Int) < 1))) || (decide ((List.length t.Nodes : Int) > 400))) = false := by
  simp only [Bool.or_eq_false_iff, decide_eq_false_iff_not]
  omega
 rw [c]
 simp only [Bool.false_eq_true, if_false]
 unfold aS
 have g := Mq t (fun v10 => (some (eO t.Root v10, kU t.Root v10)).bind fun (y11 : (aR × Bool)) => (if (!y11.2) = true then some (([] : List (Int × aR)), false) else (fun (j12 : List (Int × Bool) → Option ((List (Int × aR)) × Bool)) => iF t v10 j12 n 0 (iU t.Root true ([] : List (Int × Bool)))) fun (v43 : List (Int × Bool)) => (if ((List.length v43 : Int) != (List.length v10 : Int)) = true then some (([] : List (Int × aR)), false) else (fA n v10 t.Root).bind fun (y44 : (List Int)) => some (v10, ((List.length y44 : Int) == (List.length v10 : Int)))))) t.Nodes [] n 0 0 t.Root rfl rfl (by omega) (by rw [hlen, h.nodes, Dn]) (by omega) (fun x hx => nomatch hx) (fun x hx => by
  rw [h.nodes] at hx
  have h1 := yW.1 (Dn v t.Root 0 ▸ List.mem_map.2 ⟨x, hx, rfl⟩ : x.ID ∈ oV t.Root (gR v))
  refine ⟨by omega, ?_⟩
  rcases Ta v t.Root 0 x hx with ⟨a, b⟩ | ⟨a, b, _⟩
  ·rw [a, b]; simp
  ·have e1 : (x.Parent == 0) = false := by rw [beq_eq_false_iff_ne]; omega
   have e2 : (x.ID == t.Root) = false := by rw [beq_eq_false_iff_ne]; omega
   rw [e1, e2]) (by omega)
 refine (show _ = _ from g).trans ?_
 have hl : (kX t.Nodes).lookup t.Root = some (hd t.Root 0 v) := h.sub (hd t.Root 0 v) (by rw [nC]; simp)
 simp only [eO, kU, hl, Option.getD_some, Option.isSome_some, Option.bind_some, Bool.not_true, Bool.false_eq_true, if_false]
 obtain ⟨k1, k2, k3⟩ := Pl v t.Root 0
 have hnd : ([t.Root] ++ t.Nodes.flatMap aR.Kids).Nodup := by
  rw [h.nodes, List.singleton_append, List.nodup_cons]
  exact ⟨fun hm => by have := k2 _ hm; omega, k1⟩
 have hll : ([t.Root] ++ t.Nodes.flatMap aR.Kids).length = gR v := by
  rw [h.nodes, List.singleton_append, List.length_cons]; omega
 rw [show iU t.Root true ([] : List (Int × Bool)) = Cv [t.Root] from rfl]
 rw [Nf t (kX t.Nodes) _ (by omega) t.Nodes [] n 0 [t.Root] rfl rfl (by omega) hnd (by omega) (fun x hx k hk => by
  rw [h.nodes] at hx
  obtain ⟨y, hy, e1, e2⟩ := Rt v t.Root 0 x k hx hk
  exact ⟨y, by rw [← e1]; exact h.sub y hy, e2⟩)]
 have e1 : (Cv ([t.Root] ++ t.Nodes.flatMap aR.Kids)).length = gR v := by rw [Cv, List.length_map, hll]
 have e2 : (kX t.Nodes).length = gR v := by rw [kX, List.length_map, hlen]
 simp only [e1, e2, bne_self_eq_false, Bool.false_eq_true, if_false]
 rw [Cl (kX t.Nodes) v n t.Root 0 h.sub (by omega) (by omega)]
 simp only [Option.bind_some, mJ, beq_self_eq_true]
theorem Gp {t : bB} {v : aL} (h : cV t v) (n : Nat) (hn : Hh v + 3000 ≤ n) : mE n t = (lC n v).bind fun y => some (kX t.Nodes, v, y) := by
 unfold mE
 rw [Vr h n hn]
 simp only [Option.bind_some, Bool.not_true, Bool.false_eq_true, if_false]
 rw [Ky (kX t.Nodes) v n t.Root 0 h.sub (by omega) (by have := h.size; omega)]
 rfl
end Go.Proofs.YtojkihhnioeggaaGreatDoor.S
