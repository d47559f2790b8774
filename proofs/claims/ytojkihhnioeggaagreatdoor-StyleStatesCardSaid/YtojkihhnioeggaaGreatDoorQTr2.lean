import Derived.Test.YtojkihhnioeggaaGreatDoorQTr1
import Derived.WalkKit
import Derived.WalkSpells
import Derived.WalkLawsBesides
import Derived.Deep.QuietTactic
import Derived.BigQuiet
import Derived.BigRegion
import Derived.Lib.Hide
import Derived.Deep.RegionWith
set_option linter.unusedSimpArgs false
set_option linter.unusedVariables false
set_option linter.unusedSimpArgs false
set_option linter.unusedVariables false
namespace Go.Proofs.YtojkihhnioeggaaGreatDoor.S
open Go Go.Bm
theorem pW {α : Type} {pre l : List α} {x : α} {q : Int} {L : List α} (hL : L = pre ++ x :: l) (hq : q = pre.length) : idx L q = some x := by
 unfold idx
 rw [if_pos (by omega), hq, Int.toNat_natCast, hL, List.getElem?_append_right (Nat.le_refl _), Nat.sub_self]
 rfl
theorem Cz {α : Type} {b : Nat} {l els : List α} (h : l.length + els.length ≤ 100000) (hb : b ≤ 1000) : oK b l els = some (l ++ els) := by
 obtain ⟨r, hr, rfl⟩ := eU h hb
 exact hr
def pV : Int → Nat → List Int
 | _, 0 => []
 | i, n + 1 => i :: pV (i + 1) n
theorem zW : ∀ (n m : Nat) (i : Int), pV i (n + m) = pV i n ++ pV (i + n) m
 | 0, m, i => by simp [pV]
 | n + 1, m, i => by
  rw [show n + 1 + m = (n + m) + 1 by omega, pV, pV, zW n m (i + 1), List.cons_append]
  congr 3
  omega
theorem uJ : ∀ (n : Nat) (i : Int), (pV i n).length = n
 | 0, _ => rfl
 | n + 1, i => by rw [pV, List.length_cons, uJ]
theorem Ac : ∀ {n : Nat} {i x : Int}, x ∈ pV i n ↔ i ≤ x ∧ x < i + n
 | 0, i, x => by simp [pV]
 | n + 1, i, x => by
  rw [pV, List.mem_cons, Ac]
  constructor
  ·rintro (h | h) <;> omega
  ·intro h
   by_cases e : x = i
   ·exact .inl e
   ·exact .inr (by omega)
theorem Ek : ∀ (n : Nat) (i : Int), (pV i n).Nodup
 | 0, _ => .nil
 | n + 1, i => by
  rw [pV, List.nodup_cons]
  exact ⟨fun h => by have := (Ac.1 h).1; omega, Ek n _⟩
theorem zC : ∀ (l : List aK), (∀ k, k ∈ l → ∀ i p, (sY i p k).map aR.ID = pV i (gM k)) → ∀ i p, (jX i p l).map aR.ID = pV i (bR l)
 | [], _, _, _ => rfl
 | v :: l, h, i, p => by
  rw [jX, bR, List.map_append, h v (by simp), zC l (fun k hk => h k (by simp [hk])), zW]
theorem Ai (v : aK) : ∀ i p, (sY i p v).map aR.ID = pV i (gM v) := by
 induction v using jJ with
 | h v ih =>
  intro i p
  rw [lJ, kX, List.map_cons, zC v.Kids ih, Nat.add_comm, pV]
  rfl
theorem zK : ∀ (l : List aK), (∀ k, k ∈ l → ∀ i p x, x ∈ sY i p k → (x.ID = i ∧ x.Parent = p) ∨ (i < x.ID ∧ i ≤ x.Parent ∧ x.Parent < x.ID)) → ∀ i p x, x ∈ jX i p l → i ≤ x.ID ∧ (x.Parent = p ∨ (i ≤ x.Parent ∧ x.Parent < x.ID))
 | [], _, _, _, _, h => nomatch h
 | v :: l, h, i, p, x, hx => by
  rw [jX, List.mem_append] at hx
  rcases hx with hx | hx
  ·rcases h v (by simp) i p x hx with ⟨a, b⟩ | ⟨a, b, c⟩
   ·exact ⟨by omega, .inl b⟩
   ·exact ⟨by omega, .inr ⟨b, c⟩⟩
  ·obtain ⟨a, b⟩ := zK l (fun k hk => h k (by simp [hk])) _ p x hx
   refine ⟨by omega, ?_⟩
   rcases b with b | ⟨b, c⟩
   ·exact .inl b
   ·exact .inr ⟨by omega, c⟩
theorem Mf (v : aK) : ∀ i p x, x ∈ sY i p v → (x.ID = i ∧ x.Parent = p) ∨ (i < x.ID ∧ i ≤ x.Parent ∧ x.Parent < x.ID) := by
 induction v using jJ with
 | h v ih =>
  intro i p x hx
  rw [lJ, List.mem_cons] at hx
  rcases hx with rfl | hx
  ·exact .inl ⟨rfl, rfl⟩
  ·obtain ⟨a, b⟩ := zK v.Kids ih _ _ x hx
   rcases b with b | ⟨b, c⟩
   ·exact .inr ⟨by omega, by omega, by omega⟩
   ·exact .inr ⟨by omega, by omega, c⟩
theorem Hn : ∀ (l : List aK) (s p k : Int), k ∈ qG s l → ∃ y, y ∈ jX s p l ∧ y.ID = k ∧ y.Parent = p
 | [], _, _, _, h => nomatch h
 | v :: l, s, p, k, h => by
  rw [qG, List.mem_cons] at h
  rw [jX]
  rcases h with rfl | h
  ·exact ⟨hd k p v, by rw [lJ]; simp, rfl, rfl⟩
  ·obtain ⟨y, hy, h1, h2⟩ := Hn l _ p k h
   exact ⟨y, by simp [hy], h1, h2⟩
theorem yW : ∀ (l : List aK), (∀ k, k ∈ l → ∀ i p x c, x ∈ sY i p k → c ∈ x.Kids → ∃ y, y ∈ sY i p k ∧ y.ID = c ∧ y.Parent = x.ID) → ∀ i p x c, x ∈ jX i p l → c ∈ x.Kids → ∃ y, y ∈ jX i p l ∧ y.ID = c ∧ y.Parent = x.ID
 | [], _, _, _, _, _, h, _ => nomatch h
 | v :: l, h, i, p, x, c, hx, hc => by
  rw [jX] at hx ⊢
  rcases List.mem_append.1 hx with hx | hx
  ·obtain ⟨y, hy, h1⟩ := h v (by simp) i p x c hx hc
   exact ⟨y, by simp [hy], h1⟩
  ·obtain ⟨y, hy, h1⟩ := yW l (fun k hk => h k (by simp [hk])) _ p x c hx hc
   exact ⟨y, by simp [hy], h1⟩
theorem Mm (v : aK) : ∀ i p x c, x ∈ sY i p v → c ∈ x.Kids → ∃ y, y ∈ sY i p v ∧ y.ID = c ∧ y.Parent = x.ID := by
 induction v using jJ with
 | h v ih =>
  intro i p x c hx hc
  rw [lJ] at hx ⊢
  rcases List.mem_cons.1 hx with rfl | hx
  ·obtain ⟨y, hy, h1, h2⟩ := Hn v.Kids (i + 1) i c hc
   exact ⟨y, by simp [hy], h1, h2⟩
  ·obtain ⟨y, hy, h1⟩ := yW v.Kids ih _ _ x c hx hc
   exact ⟨y, by simp [hy], h1⟩
theorem Cv : ∀ (l : List aK), (∀ k, k ∈ l → ∀ i p, ((sY i p k).flatMap aR.Kids).Nodup ∧ (∀ c, c ∈ (sY i p k).flatMap aR.Kids → i < c ∧ c < i + gM k) ∧ ((sY i p k).flatMap aR.Kids).length + 1 = gM k) → ∀ s p,
  (qG s l ++ (jX s p l).flatMap aR.Kids).Nodup ∧ (∀ c, c ∈ qG s l ++ (jX s p l).flatMap aR.Kids → s ≤ c ∧ c < s + bR l) ∧ (qG s l ++ (jX s p l).flatMap aR.Kids).length = bR l
 | [], _, s, p => ⟨by simp [qG, jX], fun c hc => by simp [qG, jX] at hc, rfl⟩
 | v :: l, h, s, p => by
  obtain ⟨a1, a2, a3⟩ := h v (by simp) s p
  obtain ⟨b1, b2, b3⟩ := Cv l (fun k hk => h k (by simp [hk])) (s + gM v) p
  have hz := rM v
  rw [qG, jX, bR, List.flatMap_append, List.cons_append]
  have hp : (qG (s + gM v) l ++ ((sY s p v).flatMap aR.Kids ++ (jX (s + gM v) p l).flatMap aR.Kids)).Perm ((sY s p v).flatMap aR.Kids ++ (qG (s + gM v) l ++ (jX (s + gM v) p l).flatMap aR.Kids)) := List.perm_append_comm_assoc ..
  have hb : ∀ c, c ∈ (sY s p v).flatMap aR.Kids ++ (qG (s + gM v) l ++ (jX (s + gM v) p l).flatMap aR.Kids) → s < c ∧ c < s + (gM v + bR l : Nat) := fun c hc => by
   rcases List.mem_append.1 hc with hc | hc
   ·have := a2 c hc; omega
   ·have := b2 c hc; omega
  refine ⟨?_, fun c hc => ?_, ?_⟩
  ·rw [List.nodup_cons]
   refine ⟨fun hm => ?_, ?_⟩
   ·have := hb s (hp.mem_iff.1 hm); omega
   ·rw [hp.nodup_iff, List.nodup_append]
    refine ⟨a1, b1, fun x hx y hy e => ?_⟩
    have h1 := a2 x hx
    have h2 := b2 y hy
    omega
  ·rcases List.mem_cons.1 hc with rfl | hc
   ·omega
   ·have := hb c (hp.mem_iff.1 hc); omega
  ·rw [List.length_cons, hp.length_eq, List.length_append, b3]
   omega
theorem Ke (v : aK) : ∀ i p, ((sY i p v).flatMap aR.Kids).Nodup ∧ (∀ c, c ∈ (sY i p v).flatMap aR.Kids → i < c ∧ c < i + gM v) ∧ ((sY i p v).flatMap aR.Kids).length + 1 = gM v := by
 induction v using jJ with
 | h v ih =>
  intro i p
  obtain ⟨b1, b2, b3⟩ := Cv v.Kids ih (i + 1) i
  rw [lJ, kX, List.flatMap_cons]
  refine ⟨b1, fun c hc => ?_, ?_⟩
  ·have := b2 c hc; omega
  ·have e : ((hd i p v).Kids ++ (jX (i + 1) i v.Kids).flatMap aR.Kids).length = bR v.Kids := b3
   rw [e]; omega
def sG (l : List aR) : List (Int × aR) := l.map fun x => (x.ID, x)
theorem Iw (a b : List aR) : sG (a ++ b) = sG a ++ sG b := List.map_append
theorem uS : ∀ {l : List aR}, (l.map aR.ID).Nodup → ∀ {x : aR}, x ∈ l → (sG l).lookup x.ID = some x
 | [], _, _, h => nomatch h
 | y :: l, hn, x, h => by
  rw [List.map_cons, List.nodup_cons] at hn
  unfold sG
  rw [List.map_cons, List.lookup_cons]
  rcases List.mem_cons.1 h with rfl | h
  ·simp
  ·have : (x.ID == y.ID) = false := by
    rw [beq_eq_false_iff_ne]
    intro e
    exact hn.1 (e ▸ List.mem_map.2 ⟨x, h, rfl⟩)
   rw [this]
   exact uS hn.2 h
theorem Bi {β : Type} {k : Int} {v : β} : ∀ {l : List (Int × β)}, (∀ p, p ∈ l → p.1 ≠ k) → jO k v l = l ++ [(k, v)]
 | [], _ => rfl
 | p :: l, h => by
  have : (p.1 == k) = false := by rw [beq_eq_false_iff_ne]; exact h p (by simp)
  rw [jO, this]
  simp only [Bool.false_eq_true, if_false, List.cons_append]
  rw [Bi fun q hq => h q (by simp [hq])]
theorem Hq (t : bD) (j : List (Int × aR) → Option ((List (Int × aR)) × Bool)) : ∀ (l pre : List aR) (n : Nat) (last q s : Int), t.Nodes = pre ++ l → q = pre.length → l.length < n → l.map aR.ID = pV s l.length → last < s → (∀ x, x ∈ pre → x.ID < s) → (∀ x, x ∈ l → x.ID < t.Next ∧ ((x.Parent == 0) = (x.ID == t.Root))) → t.Nodes.length ≤ 1000 →
  iJ t j n last q (sG pre) = j (sG t.Nodes)
 | [], pre, n, last, q, s, ht, hq, hn, hi, hl, hp, hx, hz => by
  obtain ⟨n, rfl⟩ : ∃ m, n = m + 1 := ⟨n - 1, by simp at hn; omega⟩
  have hlen : t.Nodes.length = pre.length := by rw [ht]; simp
  rw [iJ, if_neg (by simp; omega), ht, List.append_nil]
 | x :: l, pre, n, last, q, s, ht, hq, hn, hi, hl, hp, hx, hz => by
  obtain ⟨n, rfl⟩ : ∃ m, n = m + 1 := ⟨n - 1, by simp at hn; omega⟩
  have hlen : t.Nodes.length = pre.length + (l.length + 1) := by rw [ht]; simp
  have hw : IntKind.wrap .i64 (q + 1) = q + 1 := Go.Bm.bB (by omega) (by omega)
  rw [List.map_cons, List.length_cons, pV] at hi
  injection hi with hi1 hi2
  obtain ⟨g1, g2⟩ := hx x (by simp)
  rw [iJ, if_pos (by simp; omega), pW ht hq]
  simp only [Option.bind_some, hw]
  have c1 : decide (x.ID ≤ last) = false := by simp; omega
  have c2 : decide (x.ID ≥ t.Next) = false := by simp; omega
  rw [c1, c2, g2]
  simp only [Bool.or_self, bne_self_eq_false, Bool.false_eq_true, if_false]
  rw [Bi fun p hp' => by
   obtain ⟨y, hy, rfl⟩ := List.mem_map.1 hp'
   have := hp y hy
   show y.ID ≠ x.ID
   omega]
  rw [show sG pre ++ [(x.ID, x)] = sG (pre ++ [x]) from (Iw pre [x]).symm]
  exact Hq t j l (pre ++ [x]) n x.ID (q + 1) (s + 1) (by rw [ht]; simp) (by simp; omega) (by simp at hn; omega) hi2 (by omega) (fun y hy => by
   rcases List.mem_append.1 hy with hy | hy
   ·have := hp y hy; omega
   ·simp only [List.mem_singleton] at hy; subst hy; omega) (fun y hy => hx y (by simp [hy])) hz
def zQ (l : List Int) : List (Int × Bool) := l.map fun k => (k, true)
theorem El {k : Int} : ∀ {l : List Int}, k ∉ l → (zQ l).lookup k = none
 | [], _ => rfl
 | x :: l, h => by
  have : (k == x) = false := by rw [beq_eq_false_iff_ne]; intro e; exact h (by simp [e])
  unfold zQ
  rw [List.map_cons, List.lookup_cons, this]
  exact El fun hk => h (by simp [hk])
theorem Jq (e : aR) (M : List (Int × aR)) (j : List (Int × Bool) → Option ((List (Int × aR)) × Bool)) (t : bD) (w : Int) (hz : e.Kids.length ≤ 1000) : ∀ (l pre : List Int) (n : Nat) (q : Int) (S : List Int), e.Kids = pre ++ l → q = pre.length → l.length < n → (S ++ l).Nodup → (∀ k, k ∈ l → ∃ y, M.lookup k = some y ∧ y.Parent = e.ID) →
  iH e M j t w n q (zQ S) = j (zQ (S ++ l))
 | [], pre, n, q, S, ht, hq, hn, hd, hm => by
  obtain ⟨n, rfl⟩ : ∃ m, n = m + 1 := ⟨n - 1, by simp at hn; omega⟩
  have hlen : e.Kids.length = pre.length := by rw [ht]; simp
  rw [iH, if_neg (by simp; omega), List.append_nil]
 | k :: l, pre, n, q, S, ht, hq, hn, hd, hm => by
  obtain ⟨n, rfl⟩ : ∃ m, n = m + 1 := ⟨n - 1, by simp at hn; omega⟩
  have hlen : e.Kids.length = pre.length + (l.length + 1) := by rw [ht]; simp
  have hw : IntKind.wrap .i64 (q + 1) = q + 1 := Go.Bm.bB (by omega) (by omega)
  obtain ⟨y, hy, hyp⟩ := hm k (by simp)
  have hks : k ∉ S := fun h => by
   rw [List.nodup_append] at hd
   exact hd.2.2 k h k (by simp) rfl
  rw [iH, if_pos (by simp; omega), pW ht hq]
  simp only [Option.bind_some, hw, lS, lA, hy, El hks, Option.getD_some, Option.isSome_some, Option.getD_none, hyp, bne_self_eq_false, Bool.not_true, Bool.or_self, Bool.not_false, gd, List.all_cons, List.all_nil, id, Bool.and_true, if_true, Option.isSome_none, Bool.or_false, show (default : Bool) = false from rfl, Bool.false_eq_true, if_false]
  rw [Bi fun p hp' => by
   obtain ⟨x, hx, rfl⟩ := List.mem_map.1 hp'
   intro e'
   exact hks (e' ▸ hx)]
  rw [show zQ S ++ [(k, true)] = zQ (S ++ [k]) from by simp [zQ]]
  rw [Jq e M j t w hz l (pre ++ [k]) n (q + 1) (S ++ [k]) (by rw [ht]; simp) (by simp; omega) (by simp at hn; omega) (by simpa using hd) (fun c hc => hm c (by simp [hc]))]
  simp
theorem Hp (t : bD) (M : List (Int × aR)) (j : List (Int × Bool) → Option ((List (Int × aR)) × Bool)) (hz : t.Nodes.length ≤ 1000) : ∀ (l pre : List aR) (n : Nat) (q : Int) (S : List Int), t.Nodes = pre ++ l → q = pre.length → l.length + 1000 < n → (S ++ l.flatMap aR.Kids).Nodup → (S ++ l.flatMap aR.Kids).length ≤ 900 → (∀ x, x ∈ l → ∀ k, k ∈ x.Kids → ∃ y, M.lookup k = some y ∧ y.Parent = x.ID) →
  gN t M j n q (zQ S) = j (zQ (S ++ l.flatMap aR.Kids))
 | [], pre, n, q, S, ht, hq, hn, hd, hl, hm => by
  obtain ⟨n, rfl⟩ : ∃ m, n = m + 1 := ⟨n - 1, by simp at hn; omega⟩
  have hlen : t.Nodes.length = pre.length := by rw [ht]; simp
  rw [gN, if_neg (by simp; omega)]
  simp
 | x :: l, pre, n, q, S, ht, hq, hn, hd, hl, hm => by
  obtain ⟨n, rfl⟩ : ∃ m, n = m + 1 := ⟨n - 1, by simp at hn; omega⟩
  have hlen : t.Nodes.length = pre.length + (l.length + 1) := by rw [ht]; simp
  have hw : IntKind.wrap .i64 (q + 1) = q + 1 := Go.Bm.bB (by omega) (by omega)
  rw [List.flatMap_cons] at hd hl ⊢
  rw [← List.append_assoc] at hd hl
  have hkl : x.Kids.length ≤ 900 := by simp at hl; omega
  rw [gN, if_pos (by simp; omega)]
  unfold aX
  rw [pW ht hq]
  simp only [Option.bind_some, hw]
  rw [Jq x M _ t q (by omega) x.Kids [] n 0 S rfl rfl (by omega) (List.nodup_append.1 hd).1 (fun k hk => hm x (by simp) k hk)]
  rw [Hp t M j hz l (pre ++ [x]) n (q + 1) (S ++ x.Kids) (by rw [ht]; simp) (by simp; omega) (by simp at hn; omega) hd hl (fun y hy => hm y (by simp [hy]))]
  rw [List.append_assoc]
def Ye (M : List (Int × aR)) (i p : Int) (v : aK) : Prop := ∀ x, x ∈ sY i p v → M.lookup x.ID = some x
theorem Ye.kid {M : List (Int × aR)} {i p : Int} {v : aK} (h : Ye M i p v) {pre l : List aK} {k : aK} (hk : v.Kids = pre ++ k :: l) : Ye M (i + 1 + bR pre) i k := fun x hx => by
 refine h x ?_
 rw [lJ, hk]
 have : ∀ (pre : List aK) (s : Int), x ∈ sY (s + bR pre) i k → x ∈ jX s i (pre ++ k :: l) := by
  intro pre
  induction pre with
  | nil => intro s hx; rw [List.nil_append, jX]; rw [bR] at hx; simp at hx; simp [hx]
  | cons v pre ih =>
   intro s hx
   rw [List.cons_append, jX]
   rw [bR] at hx
   refine List.mem_append_right _ (ih (s + gM v) ?_)
   rw [show s + (gM v : Int) + (bR pre : Int) = s + ((gM v + bR pre : Nat) : Int) by omega]
   exact hx
 exact List.mem_cons_of_mem _ (this pre (i + 1) hx)
theorem kE (a b : List aK) : bR (a ++ b) = bR a + bR b := by
 induction a with
 | nil => simp [bR]
 | cons v a ih => rw [List.cons_append, bR, bR, ih]; omega
theorem rL : ∀ (a b : List aK) (i : Int), qG i (a ++ b) = qG i a ++ qG (i + bR a) b
 | [], b, i => by simp [qG, bR]
 | v :: a, b, i => by
  rw [List.cons_append, qG, qG, rL a b, bR, List.cons_append]
  congr 3
  omega
theorem nG (l : List aK) : l.length ≤ bR l := by
 induction l with
 | nil => simp
 | cons v l ih => rw [bR, List.length_cons]; have := rM v; omega
theorem Ia (M : List (Int × aR)) (self : List (Int × aR) → Int → Option (List Int)) (v : aK) (i p : Int) (b : Bool) (j : List Int → Option (List Int)) (hz : gM v ≤ 1000) (hs : ∀ pre k l, v.Kids = pre ++ k :: l → self M (i + 1 + bR pre) = some (pV (i + 1 + bR pre) (gM k))) : ∀ (l pre : List aK) (n : Nat) (q : Int), v.Kids = pre ++ l → q = pre.length → l.length < n →
  fN (hd i p v, b) self M j n (pV i (1 + bR pre)) q = j (pV i (1 + bR v.Kids))
 | [], pre, n, q, ht, hq, hn => by
  obtain ⟨n, rfl⟩ : ∃ m, n = m + 1 := ⟨n - 1, by simp at hn; omega⟩
  have hlen : (hd i p v).Kids.length = pre.length := by show (qG _ _).length = _; rw [nW, ht]; simp
  rw [fN, if_neg (by simp only [hlen]; simp; omega), ht, List.append_nil]
 | k :: l, pre, n, q, ht, hq, hn => by
  obtain ⟨n, rfl⟩ : ∃ m, n = m + 1 := ⟨n - 1, by simp at hn; omega⟩
  have hlen : (hd i p v).Kids.length = pre.length + (l.length + 1) := by show (qG _ _).length = _; rw [nW, ht]; simp
  have hkl := nG v.Kids
  have hsz := kX v
  have hv : bR v.Kids = bR pre + (gM k + bR l) := by rw [ht, kE, bR]
  have hpl : pre.length ≤ 1000 := by have := nG pre; omega
  have hw : IntKind.wrap .i64 (q + 1) = q + 1 := Go.Bm.bB (by omega) (by omega)
  have hix : idx (hd i p v).Kids q = some (i + 1 + bR pre) := by
   refine pW (pre := qG (i + 1) pre) (l := qG (i + 1 + bR pre + gM k) l) ?_ (by rw [nW]; exact hq)
   show qG (i + 1) v.Kids = _
   rw [ht, rL, qG]
  rw [fN, if_pos (by simp only [hlen]; simp; omega), hix]
  simp only [Option.bind_some]
  rw [hs pre k l ht]
  simp only [Option.bind_some, hw]
  rw [Cz (by rw [uJ, uJ]; omega) (by decide)]
  simp only [Option.bind_some]
  have e : pV i (1 + bR pre) ++ pV (i + 1 + bR pre) (gM k) = pV i (1 + bR (pre ++ [k])) := by
   rw [kE, bR, bR, show 1 + (bR pre + (gM k + 0)) = (1 + bR pre) + gM k by omega, zW (1 + bR pre) (gM k) i, show i + ((1 + bR pre : Nat) : Int) = i + 1 + (bR pre : Int) by omega]
  rw [e]
  exact Ia M self v i p b j hz hs l (pre ++ [k]) n (q + 1) (by rw [ht]; simp) (by simp; omega) (by simp at hn; omega)
theorem Jm (M : List (Int × aR)) (v : aK) : ∀ (n : Nat) (i p : Int), Ye M i p v → Hh v ≤ n → gM v ≤ 1000 → eP n M i = some (pV i (gM v)) := by
 induction v using jJ with
 | h v ih =>
  intro n i p hM hn hz
  have hfu := wC v
  have hsz := kX v
  obtain ⟨n, rfl⟩ : ∃ m, n = m + 1 := ⟨n - 1, by omega⟩
  rw [eP, jE]
  unfold aX
  have hl : M.lookup i = some (hd i p v) := hM (hd i p v) (by rw [lJ]; simp)
  simp only [lS, lA, hl, Option.getD_some, Option.isSome_some, Option.bind_some]
  have := Ia M (fun a0 a1 => eP n a0 a1) v i p true (fun v13 => some v13) hz (fun pre k l hk => by
   have hmem : k ∈ v.Kids := by rw [hk]; simp
   exact ih k hmem n _ i (hM.kid hk) (by have := pA hmem; omega) (by have := qL hmem; omega)) v.Kids [] n 0 rfl rfl (by omega)
  rw [show pV i (1 + bR []) = [i] from rfl] at this
  exact this.trans (by rw [hsz])
theorem Et (M : List (Int × aR)) (self : List (Int × aR) → Int → Option aK) (v : aK) (i p : Int) (b : Bool) (j : List aK → Option aK) (hz : gM v ≤ 1000) (hs : ∀ pre k l, v.Kids = pre ++ k :: l → self M (i + 1 + bR pre) = some k) : ∀ (l pre : List aK) (n : Nat) (q : Int), v.Kids = pre ++ l → q = pre.length → l.length < n →
  eZ (hd i p v, b) self M j n q pre = j v.Kids
 | [], pre, n, q, ht, hq, hn => by
  obtain ⟨n, rfl⟩ : ∃ m, n = m + 1 := ⟨n - 1, by simp at hn; omega⟩
  have hlen : (hd i p v).Kids.length = pre.length := by show (qG _ _).length = _; rw [nW, ht]; simp
  rw [eZ, if_neg (by simp only [hlen]; simp; omega), ht, List.append_nil]
 | k :: l, pre, n, q, ht, hq, hn => by
  obtain ⟨n, rfl⟩ : ∃ m, n = m + 1 := ⟨n - 1, by simp at hn; omega⟩
  have hlen : (hd i p v).Kids.length = pre.length + (l.length + 1) := by show (qG _ _).length = _; rw [nW, ht]; simp
  have hkl := nG v.Kids
  have hsz := kX v
  have hv : bR v.Kids = bR pre + (gM k + bR l) := by rw [ht, kE, bR]
  have hpl : pre.length ≤ 1000 := by have := nG pre; omega
  have hw : IntKind.wrap .i64 (q + 1) = q + 1 := Go.Bm.bB (by omega) (by omega)
  have hix : idx (hd i p v).Kids q = some (i + 1 + bR pre) := by
   refine pW (pre := qG (i + 1) pre) (l := qG (i + 1 + bR pre + gM k) l) ?_ (by rw [nW]; exact hq)
   show qG (i + 1) v.Kids = _
   rw [ht, rL, qG]
  rw [eZ, if_pos (by simp only [hlen]; simp; omega), hix]
  simp only [Option.bind_some]
  rw [hs pre k l ht]
  simp only [Option.bind_some, hw]
  rw [Cz (by simp; omega) (by decide)]
  simp only [Option.bind_some]
  exact Et M self v i p b j hz hs l (pre ++ [k]) n (q + 1) (by rw [ht]; simp) (by simp; omega) (by simp at hn; omega)
theorem Gq (M : List (Int × aR)) (v : aK) : ∀ (n : Nat) (i p : Int), Ye M i p v → Hh v ≤ n → gM v ≤ 1000 → fX n M i = some v := by
 induction v using jJ with
 | h v ih =>
  intro n i p hM hn hz
  have hfu := wC v
  have hsz := kX v
  obtain ⟨n, rfl⟩ : ∃ m, n = m + 1 := ⟨n - 1, by omega⟩
  rw [fX, iL]
  unfold aX
  have hl : M.lookup i = some (hd i p v) := hM (hd i p v) (by rw [lJ]; simp)
  simp only [lS, lA, hl, Option.getD_some, Option.isSome_some, Option.bind_some]
  exact (Et M (fun a0 a1 => fX n a0 a1) v i p true _ hz (fun pre k l hk => by
   have hmem : k ∈ v.Kids := by rw [hk]; simp
   exact ih k hmem n _ i (hM.kid hk) (by have := pA hmem; omega) (by have := qL hmem; omega)) v.Kids [] n 0 rfl rfl (by omega)).trans (by cases v; rfl)
structure dK (t : bD) (v : aK) : Prop where
 root : 1 ≤ t.Root ∧ t.Root ≤ 1000000000
 next : t.Next = t.Root + gM v
 nodes : t.Nodes = sY t.Root 0 v
 size : gM v ≤ 400
theorem dK.nodup {t : bD} {v : aK} (h : dK t v) : (t.Nodes.map aR.ID).Nodup := by rw [h.nodes, Ai]; exact Ek _ _
theorem dK.sub {t : bD} {v : aK} (h : dK t v) : Ye (sG t.Nodes) t.Root 0 v := fun x hx => uS h.nodup (by rw [h.nodes]; exact hx)
theorem Ql {t : bD} {v : aK} (h : dK t v) (n : Nat) (hn : Hh v + 3000 ≤ n) : oW n t = some (sG t.Nodes, true) := by
 obtain ⟨r1, r2⟩ := h.root
 have hnx := h.next
 have hsz := h.size
 have hp := rM v
 have hlen : t.Nodes.length = gM v := by rw [h.nodes, Fu]
 unfold oW
 have c : ((((decide (t.Next < 2)) || (decide (t.Next > 1099511627776))) || (decide ((List.length t.Nodes : Int) < 1))) || (decide ((List.length t.Nodes : Int) > 400))) = false := by
  simp only [Bool.or_eq_false_iff, decide_eq_false_iff_not]
  omega
 rw [c]
 simp only [Bool.false_eq_true, if_false]
 unfold aX
 have g := Hq t (fun v10 => (some (lS t.Root v10, lA t.Root v10)).bind fun (y11 : (aR × Bool)) => (if (!y11.2) = true then some (([] : List (Int × aR)), false) else (fun (j12 : List (Int × Bool) → Option ((List (Int × aR)) × Bool)) => gN t v10 j12 n 0 (jO t.Root true ([] : List (Int × Bool)))) fun (v43 : List (Int × Bool)) => (if ((List.length v43 : Int) != (List.length v10 : Int)) = true then some (([] : List (Int × aR)), false) else (eP n v10 t.Root).bind fun (y44 : (List Int)) => some (v10, ((List.length y44 : Int) == (List.length v10 : Int)))))) t.Nodes [] n 0 0 t.Root rfl rfl (by omega) (by rw [hlen, h.nodes, Ai]) (by omega) (fun x hx => nomatch hx) (fun x hx => by
  rw [h.nodes] at hx
  have h1 := Ac.1 (Ai v t.Root 0 ▸ List.mem_map.2 ⟨x, hx, rfl⟩ : x.ID ∈ pV t.Root (gM v))
  refine ⟨by omega, ?_⟩
  rcases Mf v t.Root 0 x hx with ⟨a, b⟩ | ⟨a, b, _⟩
  ·rw [a, b]; simp
  ·have e1 : (x.Parent == 0) = false := by rw [beq_eq_false_iff_ne]; omega
   have e2 : (x.ID == t.Root) = false := by rw [beq_eq_false_iff_ne]; omega
   rw [e1, e2]) (by omega)
 refine (show _ = _ from g).trans ?_
 have hl : (sG t.Nodes).lookup t.Root = some (hd t.Root 0 v) := h.sub (hd t.Root 0 v) (by rw [lJ]; simp)
 simp only [lS, lA, hl, Option.getD_some, Option.isSome_some, Option.bind_some, Bool.not_true, Bool.false_eq_true, if_false]
 obtain ⟨k1, k2, k3⟩ := Ke v t.Root 0
 have hnd : ([t.Root] ++ t.Nodes.flatMap aR.Kids).Nodup := by
  rw [h.nodes, List.singleton_append, List.nodup_cons]
  exact ⟨fun hm => by have := k2 _ hm; omega, k1⟩
 have hll : ([t.Root] ++ t.Nodes.flatMap aR.Kids).length = gM v := by
  rw [h.nodes, List.singleton_append, List.length_cons]; omega
 rw [show jO t.Root true ([] : List (Int × Bool)) = zQ [t.Root] from rfl]
 rw [Hp t (sG t.Nodes) _ (by omega) t.Nodes [] n 0 [t.Root] rfl rfl (by omega) hnd (by omega) (fun x hx k hk => by
  rw [h.nodes] at hx
  obtain ⟨y, hy, e1, e2⟩ := Mm v t.Root 0 x k hx hk
  exact ⟨y, by rw [← e1]; exact h.sub y hy, e2⟩)]
 have e1 : (zQ ([t.Root] ++ t.Nodes.flatMap aR.Kids)).length = gM v := by rw [zQ, List.length_map, hll]
 have e2 : (sG t.Nodes).length = gM v := by rw [sG, List.length_map, hlen]
 simp only [e1, e2, bne_self_eq_false, Bool.false_eq_true, if_false]
 rw [Jm (sG t.Nodes) v n t.Root 0 h.sub (by omega) (by omega)]
 simp only [Option.bind_some, uJ, beq_self_eq_true]
theorem Lr {t : bD} {v : aK} (h : dK t v) (n : Nat) (hn : Hh v + 3000 ≤ n) : kR n t = (jK n v).bind fun y => some (sG t.Nodes, v, y) := by
 unfold kR
 rw [Ql h n hn]
 simp only [Option.bind_some, Bool.not_true, Bool.false_eq_true, if_false]
 rw [Gq (sG t.Nodes) v n t.Root 0 h.sub (by omega) (by have := h.size; omega)]
 rfl
end Go.Proofs.YtojkihhnioeggaaGreatDoor.S
