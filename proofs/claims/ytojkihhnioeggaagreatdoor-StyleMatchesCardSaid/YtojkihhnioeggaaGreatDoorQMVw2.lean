import Derived.Test.YtojkihhnioeggaaGreatDoorQMVw1
import Derived.Test.YtojkihhnioeggaaGreatDoorQMUt1
import Derived.WalkKit
import Derived.WalkSpells
import Derived.WalkLawsBesides
import Derived.Deep.QuietTactic
import Derived.BigQuiet
import Derived.BigRegion
import Derived.Lib.Hide
import Derived.Deep.RegionWith
set_option linter.unusedSimpArgs false
set_option linter.unusedVariables false
set_option linter.unusedSimpArgs false
set_option linter.unusedVariables false
namespace Go.Proofs.YtojkihhnioeggaaGreatDoor.S
open Go Go.Bm
theorem Gt {α β : Type} [BEq α] [LawfulBEq α] {k : α} : ∀ {m : List (α × β)}, (∀ p, p ∈ m → p.1 ≠ k) → m.lookup k = none
 | [], _ => rfl
 | p :: m, h => by
  have : (k == p.1) = false := by rw [beq_eq_false_iff_ne]; exact fun e => h p (by simp) e.symm
  rw [List.lookup_cons, this]
  exact Gt fun q hq => h q (by simp [hq])
theorem Gx {α β : Type} [BEq α] [LawfulBEq α] {k : α} {v : β} {p : α × β} : ∀ {m : List (α × β)}, p ∈ iP k v m → p.1 = k ∨ ∃ q, q ∈ m ∧ q.1 = p.1
 | [], h => by
  rw [iP, List.mem_singleton] at h
  exact .inl (h ▸ rfl)
 | q :: m, h => by
  rw [iP] at h
  split at h
  ·rcases List.mem_cons.1 h with rfl | h
   ·exact .inr ⟨q, by simp, rfl⟩
   ·exact .inr ⟨p, by simp [h], rfl⟩
  ·rcases List.mem_cons.1 h with rfl | h
   ·exact .inr ⟨p, by simp, rfl⟩
   ·rcases Gx h with h | ⟨x, hx, e⟩
    ·exact .inl h
    ·exact .inr ⟨x, by simp [hx], e⟩
theorem gM (x : ByteArray) : cG x x = true := by unfold cG; exact beq_self_eq_true _
theorem Fl (v : aL) (p2 : Int) (j : Unit → Option (Int × Int)) (p1 : Int) (h : Zj v) : ∀ (k i n : Nat) (m : List (ByteArray × Bool)), i + k = v.Kids.length → k < n → (∀ p, p ∈ m → ∃ (q : Nat) (b : aL), q < i ∧ v.Kids[q]? = some b ∧ b.Key = p.1) → fS v p2 j p1 n (i : Int) m = j ()
 | 0, i, n, m, hi, hn, hm => by
  obtain ⟨n, rfl⟩ : ∃ q, n = q + 1 := ⟨n - 1, by omega⟩
  rw [fS, if_neg (by simp; omega)]
 | k + 1, i, n, m, hi, hn, hm => by
  obtain ⟨n, rfl⟩ : ∃ q, n = q + 1 := ⟨n - 1, by omega⟩
  have hkl := h.klen
  have hlt : i < v.Kids.length := by omega
  have hw2 : IntKind.wrap .i64 ((i : Int) + 1) = ((i + 1 : Nat) : Int) := by rw [Go.Bm.bB (by omega) (by omega)]; omega
  have ih := Fl v p2 j p1 h k (i + 1) n (iP v.Kids[i].Key true m) (by omega) (by omega) (fun p hp => by
   rcases Gx hp with e | ⟨q, hq, e⟩
   ·exact ⟨i, v.Kids[i], by omega, List.getElem?_eq_getElem hlt, e.symm⟩
   ·obtain ⟨q', b, h1, h2, h3⟩ := hm q hq
    exact ⟨q', b, by omega, h2, h3.trans e⟩)
  rw [fS, if_pos (by simp; omega), hZ hlt]
  simp only [Option.bind_some, hw2, ih]
  cases hq : cG v.Kids[i].Key (⟨#[]⟩ : ByteArray)
  ·have hnone : m.lookup v.Kids[i].Key = none := Gt fun p hp e => by
    obtain ⟨q, b, h1, h2, h3⟩ := hm p hp
    have := h.keys i q v.Kids[i] b h1 (List.getElem?_eq_getElem hlt) h2 hq
    rw [h3, e, gM] at this
    cases this
   simp only [Bool.not_false, Am, Option.bind_some, gN, jF, hnone, Option.getD_none, show (default : Bool) = false from rfl, Bool.and_false, Bool.false_eq_true, if_false]
  ·simp only [Bool.not_true, gd_f, Option.bind_some, Bool.false_and, Bool.false_eq_true, if_false]
theorem Gy (v : aL) (self : aL → Int → Int → Option (Int × Int)) (p1 : Int) (j : Int → Option (Int × Int)) (h : Zj v) (hp : 0 ≤ p1 ∧ p1 ≤ 16) (hs : ∀ k, k ∈ v.Kids → ∀ c : Int, 0 ≤ c → c + gP k ≤ 400 → self k (p1 + 1) c = some (0, c + gP k)) : ∀ (l pre : List aL) (n : Nat) (q c : Int), v.Kids = pre ++ l → q = pre.length → l.length < n → 0 ≤ c → c + bX l ≤ 400 →
  fV v self p1 j n q c = j (c + bX l)
 | [], pre, n, q, c, hv, hq, hn, h0, h1 => by
  obtain ⟨n, rfl⟩ : ∃ m, n = m + 1 := ⟨n - 1, by simp at hn; omega⟩
  have hlen : v.Kids.length = pre.length := by rw [hv]; simp
  rw [fV, if_neg (by simp; omega)]
  simp [bX]
 | k :: l, pre, n, q, c, hv, hq, hn, h0, h1 => by
  obtain ⟨n, rfl⟩ : ∃ m, n = m + 1 := ⟨n - 1, by simp at hn; omega⟩
  have hlen : v.Kids.length = pre.length + (l.length + 1) := by rw [hv]; simp
  have hkl := h.klen
  rw [bX] at h1
  have hw : IntKind.wrap .i64 (q + 1) = q + 1 := Go.Bm.bB (by omega) (by omega)
  have hw2 : IntKind.wrap .i64 (p1 + 1) = p1 + 1 := Go.Bm.bB (by omega) (by omega)
  rw [fV, if_pos (by simp; omega), pZ hv hq]
  simp only [Option.bind_some, hw, hw2]
  rw [hs k (by rw [hv]; simp) c h0 (by omega)]
  simp only [Option.bind_some, bne_self_eq_false, Bool.false_eq_true, if_false]
  rw [Gy v self p1 j h hp hs l (pre ++ [k]) n (q + 1) (c + gP k) (by rw [hv]; simp) (by simp; omega) (by simp at hn; omega) (by omega) (by omega), bX]
  congr 1
  omega
theorem Hf (v : aL) (self : aL → Int → Int → Option (Int × Int)) (p1 : Int) (j : Int → Option (Int × Int)) (h : Zj v) (hp : 0 ≤ p1 ∧ p1 ≤ 16) (hs : ∀ k, k ∈ v.Kids → ∀ c : Int, 0 ≤ c → c + gP k ≤ 400 → self k (p1 + 1) c = some (c + gP k, 0)) : ∀ (l pre : List aL) (n : Nat) (q c : Int), v.Kids = pre ++ l → q = pre.length → l.length < n → 0 ≤ c → c + bX l ≤ 400 →
  eZ v self p1 j n c q = j (c + bX l)
 | [], pre, n, q, c, hv, hq, hn, h0, h1 => by
  obtain ⟨n, rfl⟩ : ∃ m, n = m + 1 := ⟨n - 1, by simp at hn; omega⟩
  have hlen : v.Kids.length = pre.length := by rw [hv]; simp
  rw [eZ, if_neg (by simp; omega)]
  simp [bX]
 | k :: l, pre, n, q, c, hv, hq, hn, h0, h1 => by
  obtain ⟨n, rfl⟩ : ∃ m, n = m + 1 := ⟨n - 1, by simp at hn; omega⟩
  have hlen : v.Kids.length = pre.length + (l.length + 1) := by rw [hv]; simp
  have hkl := h.klen
  rw [bX] at h1
  have hw : IntKind.wrap .i64 (q + 1) = q + 1 := Go.Bm.bB (by omega) (by omega)
  have hw2 : IntKind.wrap .i64 (p1 + 1) = p1 + 1 := Go.Bm.bB (by omega) (by omega)
  rw [eZ, if_pos (by simp; omega), pZ hv hq]
  simp only [Option.bind_some, hw, hw2]
  rw [hs k (by rw [hv]; simp) c h0 (by omega)]
  simp only [Option.bind_some, bne_self_eq_false, Bool.false_eq_true, if_false]
  rw [Hf v self p1 j h hp hs l (pre ++ [k]) n (q + 1) (c + gP k) (by rw [hv]; simp) (by simp; omega) (by simp at hn; omega) (by omega) (by omega), bX]
  congr 1
  omega
theorem Cf (v : aL) : ∀ (d n : Nat) (p1 p2 : Int), qX d v → Fi v + 400 ≤ n → 0 ≤ p1 → p1 + d ≤ 17 → 0 ≤ p2 → p2 + gP v ≤ 400 → fZ n v p1 p2 = some (0, p2 + gP v) ∧ fB n v p1 p2 = some (p2 + gP v, 0) := by
 induction v using jY with
 | h v ih =>
  intro d n p1 p2 hv hn h1 h2 h3 h4
  match d, hv with
  | d + 1, ⟨hl, hk⟩ =>
  have hfu := wT v
  have hsz := lL v
  have hkl := hl.klen
  have hal := hl.alen
  have hel := hl.elen
  obtain ⟨k1, k2⟩ := hl.kind
  obtain ⟨n, rfl⟩ : ∃ m, n = m + 1 := ⟨n - 1, by omega⟩
  have hw : IntKind.wrap .i64 (p2 + 1) = p2 + 1 := Go.Bm.bB (by omega) (by omega)
  have c1 : decide (p1 > 16) = false := by simp; omega
  have c2 : decide (p2 + 1 > 400) = false := by simp; omega
  have c3 : (decide (v.Kind < 1) || decide (v.Kind > 13)) = false := by simp; omega
  have c4 : (((decide ((List.length v.Attrs : Int) > 24)) || (decide ((List.length v.Actions : Int) > 24))) || (decide ((List.length v.Kids : Int) > 100))) = false := by simp; omega
  have ih2 : ∀ k, k ∈ v.Kids → ∀ c : Int, 0 ≤ c → c + gP k ≤ 400 → fZ n k (p1 + 1) c = some (0, c + gP k) ∧ fB n k (p1 + 1) c = some (c + gP k, 0) := fun k hm c hc hc2 =>
   ih k hm d n (p1 + 1) c (hk k hm) (by have := qE hm; omega) (by omega) (by omega) hc hc2
  refine ⟨?_, ?_⟩
  ·rw [fZ, jU]
   simp only [hw, c1, c2, c3, c4, Bool.false_eq_true, if_false, hl.key.prog n (by omega), Option.bind_some, Bool.not_true, vU v.Attrs hal hl.attrs hl.sort n (by omega), yY v.Actions hel hl.acts n (by omega), bne_self_eq_false]
   unfold aV
   refine (Fl v p2 _ p1 hl v.Kids.length 0 n [] (by omega) (by omega) (fun p hp => nomatch hp)).trans ?_
   refine (Gy v (fun a0 a1 a2 => fZ n a0 a1 a2) p1 _ hl (by omega) (fun k hm c hc hc2 => (ih2 k hm c hc hc2).1) v.Kids [] n 0 (p2 + 1) rfl rfl (by omega) (by omega) (by omega)).trans ?_
   simp only [Option.some.injEq, Prod.mk.injEq, true_and]
   omega
  ·rw [fB, jC]
   simp only [hw, c1, c2, c3, c4, Bool.false_eq_true, if_false, hl.key.ref n (by omega), Option.bind_some, Bool.not_true]
   unfold aV
   refine (Eh v p2 _ p1 hal hl.attrs hl.sort v.Attrs.length 0 n (by omega) (by omega)).trans ?_
   refine (Vd v p2 p1 _ hel hl.acts n (by omega)).trans ?_
   refine (Oe v p2 p1 _ hl v.Kids.length 0 n (by omega) (by omega)).trans ?_
   refine (Hf v (fun a0 a1 a2 => fB n a0 a1 a2) p1 _ hl (by omega) (fun k hm c hc hc2 => (ih2 k hm c hc hc2).2) v.Kids [] n 0 (p2 + 1) rfl rfl (by omega) (by omega) (by omega)).trans ?_
   simp only [Option.some.injEq, Prod.mk.injEq, and_true]
   omega
theorem Nc {v : aL} (h : qX 4 v) (n : Nat) (hn : Fi v + 400 ≤ n) : jZ n v = some 0 := by
 have := qX.small 4 v h
 unfold jZ
 rw [(Cf v 4 n 1 0 h hn (by decide) (by decide) (by decide) (by omega)).1]
 rfl
theorem zR {v : aL} (h : qX 4 v) (n : Nat) (hn : Fi v + 400 ≤ n) : gV n v = some 0 := by
 have := qX.small 4 v h
 unfold gV
 rw [(Cf v 4 n 1 0 h hn (by decide) (by decide) (by decide) (by omega)).2]
 rfl
theorem Uy {v : aL} (h : qX 4 v) (n : Nat) (i : Int) (hn : Fi v + 400 ≤ n) (h1 : 1 ≤ i) (h2 : i ≤ 1000000) : ∃ t, mC n v i = some (t, 0) ∧ cS t v := by
 have hs := qX.small 4 v h
 refine ⟨⟨i, i + gP v, uH i 0 v⟩, ?_, ⟨h1, by show i ≤ _; omega⟩, rfl, rfl, by omega⟩
 unfold mC
 rw [zR h n hn]
 have c1 : (decide (i < 1) || decide (i > 1099511627376)) = false := by simp; omega
 simp only [Option.bind_some, bne_self_eq_false, Bool.false_eq_true, if_false, c1]
 rw [Rl v n 0 ⟨i, i, []⟩ (by omega) h1 (by show i + _ ≤ _; omega) (by simp; omega)]
 rfl
theorem Kw {t : bC} {v : aL} (h : cS t v) (hv : qX 4 v) (n : Nat) (hn : Fi v + 3000 ≤ n) : nJ n t = some 0 := by
 unfold nJ
 rw [Lz h n hn, Nc hv n (by omega)]
 rfl
end Go.Proofs.YtojkihhnioeggaaGreatDoor.S
