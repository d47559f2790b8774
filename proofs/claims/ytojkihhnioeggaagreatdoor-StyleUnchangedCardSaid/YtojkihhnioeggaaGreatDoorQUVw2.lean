import Derived.Test.YtojkihhnioeggaaGreatDoorQUVw1
import Derived.Test.YtojkihhnioeggaaGreatDoorQUUt1
import Derived.WalkKit
import Derived.WalkSpells
import Derived.WalkLawsBesides
import Derived.Deep.QuietTactic
import Derived.BigQuiet
import Derived.BigRegion
import Derived.Lib.Hide
import Derived.Deep.RegionWith
set_option linter.unusedSimpArgs false
set_option linter.unusedVariables false
set_option linter.unusedSimpArgs false
set_option linter.unusedVariables false
namespace Go.Proofs.YtojkihhnioeggaaGreatDoor.S
open Go Go.Bm
theorem wQ {α β : Type} [BEq α] [LawfulBEq α] {k : α} : ∀ {m : List (α × β)}, (∀ p, p ∈ m → p.1 ≠ k) → m.lookup k = none
 | [], _ => rfl
 | p :: m, h => by
  have : (k == p.1) = false := by rw [beq_eq_false_iff_ne]; exact fun e => h p (by simp) e.symm
  rw [List.lookup_cons, this]
  exact wQ fun q hq => h q (by simp [hq])
theorem zY {α β : Type} [BEq α] [LawfulBEq α] {k : α} {v : β} {p : α × β} : ∀ {m : List (α × β)}, p ∈ fY k v m → p.1 = k ∨ ∃ q, q ∈ m ∧ q.1 = p.1
 | [], h => by
  rw [fY, List.mem_singleton] at h
  exact .inl (h ▸ rfl)
 | q :: m, h => by
  rw [fY] at h
  split at h
  ·rcases List.mem_cons.1 h with rfl | h
   ·exact .inr ⟨q, by simp, rfl⟩
   ·exact .inr ⟨p, by simp [h], rfl⟩
  ·rcases List.mem_cons.1 h with rfl | h
   ·exact .inr ⟨p, by simp, rfl⟩
   ·rcases zY h with h | ⟨x, hx, e⟩
    ·exact .inl h
    ·exact .inr ⟨x, by simp [hx], e⟩
theorem eY (x : ByteArray) : bV x x = true := by unfold bV; exact beq_self_eq_true _
theorem Jh (v : aJ) (p2 : Int) (j : Unit → Option (Int × Int)) (p1 : Int) (h : Loc v) : ∀ (k i n : Nat) (m : List (ByteArray × Bool)), i + k = v.Kids.length → k < n → (∀ p, p ∈ m → ∃ (q : Nat) (b : aJ), q < i ∧ v.Kids[q]? = some b ∧ b.Key = p.1) → fU v p2 j p1 n (i : Int) m = j ()
 | 0, i, n, m, hi, hn, hm => by
  obtain ⟨n, rfl⟩ : ∃ q, n = q + 1 := ⟨n - 1, by omega⟩
  rw [fU, if_neg (by simp; omega)]
 | k + 1, i, n, m, hi, hn, hm => by
  obtain ⟨n, rfl⟩ : ∃ q, n = q + 1 := ⟨n - 1, by omega⟩
  have hkl := h.klen
  have hlt : i < v.Kids.length := by omega
  have hw2 : IntKind.wrap .i64 ((i : Int) + 1) = ((i + 1 : Nat) : Int) := by rw [Go.Bm.aT (by omega) (by omega)]; omega
  have ih := Jh v p2 j p1 h k (i + 1) n (fY v.Kids[i].Key true m) (by omega) (by omega) (fun p hp => by
   rcases zY hp with e | ⟨q, hq, e⟩
   ·exact ⟨i, v.Kids[i], by omega, List.getElem?_eq_getElem hlt, e.symm⟩
   ·obtain ⟨q', b, h1, h2, h3⟩ := hm q hq
    exact ⟨q', b, by omega, h2, h3.trans e⟩)
  rw [fU, if_pos (by simp; omega), dU hlt]
  simp only [Option.bind_some, hw2, ih]
  cases hq : bV v.Kids[i].Key (⟨#[]⟩ : ByteArray)
  ·have hnone : m.lookup v.Kids[i].Key = none := wQ fun p hp e => by
    obtain ⟨q, b, h1, h2, h3⟩ := hm p hp
    have := h.keys i q v.Kids[i] b h1 (List.getElem?_eq_getElem hlt) h2 hq
    rw [h3, e, eY] at this
    cases this
   simp only [Bool.not_false, Km, Option.bind_some, cZ, gU, hnone, Option.getD_none, show (default : Bool) = false from rfl, Bool.and_false, Bool.false_eq_true, if_false]
  ·simp only [Bool.not_true, gd_f, Option.bind_some, Bool.false_and, Bool.false_eq_true, if_false]
theorem Iu (v : aJ) (self : aJ → Int → Int → Option (Int × Int)) (p1 : Int) (j : Int → Option (Int × Int)) (h : Loc v) (hp : 0 ≤ p1 ∧ p1 ≤ 16) (hs : ∀ k, k ∈ v.Kids → ∀ c : Int, 0 ≤ c → c + fW k ≤ 400 → self k (p1 + 1) c = some (0, c + fW k)) : ∀ (l pre : List aJ) (n : Nat) (q c : Int), v.Kids = pre ++ l → q = pre.length → l.length < n → 0 ≤ c → c + cI l ≤ 400 →
  fZ v self p1 j n q c = j (c + cI l)
 | [], pre, n, q, c, hv, hq, hn, h0, h1 => by
  obtain ⟨n, rfl⟩ : ∃ m, n = m + 1 := ⟨n - 1, by simp at hn; omega⟩
  have hlen : v.Kids.length = pre.length := by rw [hv]; simp
  rw [fZ, if_neg (by simp; omega)]
  simp [cI]
 | k :: l, pre, n, q, c, hv, hq, hn, h0, h1 => by
  obtain ⟨n, rfl⟩ : ∃ m, n = m + 1 := ⟨n - 1, by simp at hn; omega⟩
  have hlen : v.Kids.length = pre.length + (l.length + 1) := by rw [hv]; simp
  have hkl := h.klen
  rw [cI] at h1
  have hw : IntKind.wrap .i64 (q + 1) = q + 1 := Go.Bm.aT (by omega) (by omega)
  have hw2 : IntKind.wrap .i64 (p1 + 1) = p1 + 1 := Go.Bm.aT (by omega) (by omega)
  rw [fZ, if_pos (by simp; omega), jX hv hq]
  simp only [Option.bind_some, hw, hw2]
  rw [hs k (by rw [hv]; simp) c h0 (by omega)]
  simp only [Option.bind_some, bne_self_eq_false, Bool.false_eq_true, if_false]
  rw [Iu v self p1 j h hp hs l (pre ++ [k]) n (q + 1) (c + fW k) (by rw [hv]; simp) (by simp; omega) (by simp at hn; omega) (by omega) (by omega), cI]
  congr 1
  omega
theorem Hp (v : aJ) (self : aJ → Int → Int → Option (Int × Int)) (p1 : Int) (j : Int → Option (Int × Int)) (h : Loc v) (hp : 0 ≤ p1 ∧ p1 ≤ 16) (hs : ∀ k, k ∈ v.Kids → ∀ c : Int, 0 ≤ c → c + fW k ≤ 400 → self k (p1 + 1) c = some (c + fW k, 0)) : ∀ (l pre : List aJ) (n : Nat) (q c : Int), v.Kids = pre ++ l → q = pre.length → l.length < n → 0 ≤ c → c + cI l ≤ 400 →
  fJ v self p1 j n c q = j (c + cI l)
 | [], pre, n, q, c, hv, hq, hn, h0, h1 => by
  obtain ⟨n, rfl⟩ : ∃ m, n = m + 1 := ⟨n - 1, by simp at hn; omega⟩
  have hlen : v.Kids.length = pre.length := by rw [hv]; simp
  rw [fJ, if_neg (by simp; omega)]
  simp [cI]
 | k :: l, pre, n, q, c, hv, hq, hn, h0, h1 => by
  obtain ⟨n, rfl⟩ : ∃ m, n = m + 1 := ⟨n - 1, by simp at hn; omega⟩
  have hlen : v.Kids.length = pre.length + (l.length + 1) := by rw [hv]; simp
  have hkl := h.klen
  rw [cI] at h1
  have hw : IntKind.wrap .i64 (q + 1) = q + 1 := Go.Bm.aT (by omega) (by omega)
  have hw2 : IntKind.wrap .i64 (p1 + 1) = p1 + 1 := Go.Bm.aT (by omega) (by omega)
  rw [fJ, if_pos (by simp; omega), jX hv hq]
  simp only [Option.bind_some, hw, hw2]
  rw [hs k (by rw [hv]; simp) c h0 (by omega)]
  simp only [Option.bind_some, bne_self_eq_false, Bool.false_eq_true, if_false]
  rw [Hp v self p1 j h hp hs l (pre ++ [k]) n (q + 1) (c + fW k) (by rw [hv]; simp) (by simp; omega) (by simp at hn; omega) (by omega) (by omega), cI]
  congr 1
  omega
theorem Gm (v : aJ) : ∀ (d n : Nat) (p1 p2 : Int), nZ d v → Bn v + 400 ≤ n → 0 ≤ p1 → p1 + d ≤ 17 → 0 ≤ p2 → p2 + fW v ≤ 400 → gG n v p1 p2 = some (0, p2 + fW v) ∧ fM n v p1 p2 = some (p2 + fW v, 0) := by
 induction v using kL with
 | h v ih =>
  intro d n p1 p2 hv hn h1 h2 h3 h4
  match d, hv with
  | d + 1, ⟨hl, hk⟩ =>
  have hfu := xT v
  have hsz := lZ v
  have hkl := hl.klen
  have hal := hl.alen
  have hel := hl.elen
  obtain ⟨k1, k2⟩ := hl.kind
  obtain ⟨n, rfl⟩ : ∃ m, n = m + 1 := ⟨n - 1, by omega⟩
  have hw : IntKind.wrap .i64 (p2 + 1) = p2 + 1 := Go.Bm.aT (by omega) (by omega)
  have c1 : decide (p1 > 16) = false := by simp; omega
  have c2 : decide (p2 + 1 > 400) = false := by simp; omega
  have c3 : (decide (v.Kind < 1) || decide (v.Kind > 13)) = false := by simp; omega
  have c4 : (((decide ((List.length v.Attrs : Int) > 24)) || (decide ((List.length v.Actions : Int) > 24))) || (decide ((List.length v.Kids : Int) > 100))) = false := by simp; omega
  have ih2 : ∀ k, k ∈ v.Kids → ∀ c : Int, 0 ≤ c → c + fW k ≤ 400 → gG n k (p1 + 1) c = some (0, c + fW k) ∧ fM n k (p1 + 1) c = some (c + fW k, 0) := fun k hm c hc hc2 =>
   ih k hm d n (p1 + 1) c (hk k hm) (by have := qG hm; omega) (by omega) (by omega) hc hc2
  refine ⟨?_, ?_⟩
  ·rw [gG, kA]
   simp only [hw, c1, c2, c3, c4, Bool.false_eq_true, if_false, hl.key.prog n (by omega), Option.bind_some, Bool.not_true, wZ v.Attrs hal hl.attrs hl.sort n (by omega), Ba v.Actions hel hl.acts n (by omega), bne_self_eq_false]
   unfold aS
   refine (Jh v p2 _ p1 hl v.Kids.length 0 n [] (by omega) (by omega) (fun p hp => nomatch hp)).trans ?_
   refine (Iu v (fun a0 a1 a2 => gG n a0 a1 a2) p1 _ hl (by omega) (fun k hm c hc hc2 => (ih2 k hm c hc hc2).1) v.Kids [] n 0 (p2 + 1) rfl rfl (by omega) (by omega) (by omega)).trans ?_
   simp only [Option.some.injEq, Prod.mk.injEq, true_and]
   omega
  ·rw [fM, jL]
   simp only [hw, c1, c2, c3, c4, Bool.false_eq_true, if_false, hl.key.ref n (by omega), Option.bind_some, Bool.not_true]
   unfold aS
   refine (Ew v p2 _ p1 hal hl.attrs hl.sort v.Attrs.length 0 n (by omega) (by omega)).trans ?_
   refine (aAh v p2 p1 _ hel hl.acts n (by omega)).trans ?_
   refine (Rt v p2 p1 _ hl v.Kids.length 0 n (by omega) (by omega)).trans ?_
   refine (Hp v (fun a0 a1 a2 => fM n a0 a1 a2) p1 _ hl (by omega) (fun k hm c hc hc2 => (ih2 k hm c hc hc2).2) v.Kids [] n 0 (p2 + 1) rfl rfl (by omega) (by omega) (by omega)).trans ?_
   simp only [Option.some.injEq, Prod.mk.injEq, and_true]
   omega
theorem Fj {v : aJ} (h : nZ 4 v) (n : Nat) (hn : Bn v + 400 ≤ n) : kQ n v = some 0 := by
 have := nZ.small 4 v h
 unfold kQ
 rw [(Gm v 4 n 1 0 h hn (by decide) (by decide) (by decide) (by omega)).1]
 rfl
theorem Bh {v : aJ} (h : nZ 4 v) (n : Nat) (hn : Bn v + 400 ≤ n) : iG n v = some 0 := by
 have := nZ.small 4 v h
 unfold iG
 rw [(Gm v 4 n 1 0 h hn (by decide) (by decide) (by decide) (by omega)).2]
 rfl
theorem aAz {v : aJ} (h : nZ 4 v) (n : Nat) (i : Int) (hn : Bn v + 400 ≤ n) (h1 : 1 ≤ i) (h2 : i ≤ 1000000) : ∃ t, nE n v i = some (t, 0) ∧ cM t v := by
 have hs := nZ.small 4 v h
 refine ⟨⟨i, i + fW v, vX i 0 v⟩, ?_, ⟨h1, by show i ≤ _; omega⟩, rfl, rfl, by omega⟩
 unfold nE
 rw [Bh h n hn]
 have c1 : (decide (i < 1) || decide (i > 1099511627376)) = false := by simp; omega
 simp only [Option.bind_some, bne_self_eq_false, Bool.false_eq_true, if_false, c1]
 rw [Wh v n 0 ⟨i, i, []⟩ (by omega) h1 (by show i + _ ≤ _; omega) (by simp; omega)]
 rfl
theorem Gr {t : bA} {v : aJ} (h : cM t v) (hv : nZ 4 v) (n : Nat) (hn : Bn v + 3000 ≤ n) : oF n t = some 0 := by
 unfold oF
 rw [Ga h n hn, Fj hv n (by omega)]
 rfl
end Go.Proofs.YtojkihhnioeggaaGreatDoor.S
