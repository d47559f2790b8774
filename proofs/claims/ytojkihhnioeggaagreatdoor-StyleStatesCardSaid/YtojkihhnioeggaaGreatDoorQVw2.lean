import Derived.Test.YtojkihhnioeggaaGreatDoorQVw1
import Derived.Test.YtojkihhnioeggaaGreatDoorQUt1
import Derived.WalkKit
import Derived.WalkSpells
import Derived.WalkLawsBesides
import Derived.Deep.QuietTactic
import Derived.BigQuiet
import Derived.BigRegion
import Derived.Lib.Hide
import Derived.Deep.RegionWith
set_option linter.unusedSimpArgs false
set_option linter.unusedVariables false
set_option linter.unusedSimpArgs false
set_option linter.unusedVariables false
namespace Go.Proofs.YtojkihhnioeggaaGreatDoor.S
open Go Go.Bm
theorem Ep {α β : Type} [BEq α] [LawfulBEq α] {k : α} : ∀ {m : List (α × β)}, (∀ p, p ∈ m → p.1 ≠ k) → m.lookup k = none
 | [], _ => rfl
 | p :: m, h => by
  have : (k == p.1) = false := by rw [beq_eq_false_iff_ne]; exact fun e => h p (by simp) e.symm
  rw [List.lookup_cons, this]
  exact Ep fun q hq => h q (by simp [hq])
theorem Ej {α β : Type} [BEq α] [LawfulBEq α] {k : α} {v : β} {p : α × β} : ∀ {m : List (α × β)}, p ∈ jO k v m → p.1 = k ∨ ∃ q, q ∈ m ∧ q.1 = p.1
 | [], h => by
  rw [jO, List.mem_singleton] at h
  exact .inl (h ▸ rfl)
 | q :: m, h => by
  rw [jO] at h
  split at h
  ·rcases List.mem_cons.1 h with rfl | h
   ·exact .inr ⟨q, by simp, rfl⟩
   ·exact .inr ⟨p, by simp [h], rfl⟩
  ·rcases List.mem_cons.1 h with rfl | h
   ·exact .inr ⟨p, by simp, rfl⟩
   ·rcases Ej h with h | ⟨x, hx, e⟩
    ·exact .inl h
    ·exact .inr ⟨x, by simp [hx], e⟩
theorem gT (x : ByteArray) : dA x x = true := by unfold dA; exact beq_self_eq_true _
theorem Ez (v : aK) (p2 : Int) (j : Unit → Option (Int × Int)) (p1 : Int) (h : Xg v) : ∀ (k i n : Nat) (m : List (ByteArray × Bool)), i + k = v.Kids.length → k < n → (∀ p, p ∈ m → ∃ (q : Nat) (b : aK), q < i ∧ v.Kids[q]? = some b ∧ b.Key = p.1) → fP v p2 j p1 n (i : Int) m = j ()
 | 0, i, n, m, hi, hn, hm => by
  obtain ⟨n, rfl⟩ : ∃ q, n = q + 1 := ⟨n - 1, by omega⟩
  rw [fP, if_neg (by simp; omega)]
 | k + 1, i, n, m, hi, hn, hm => by
  obtain ⟨n, rfl⟩ : ∃ q, n = q + 1 := ⟨n - 1, by omega⟩
  have hkl := h.klen
  have hlt : i < v.Kids.length := by omega
  have hw2 : IntKind.wrap .i64 ((i : Int) + 1) = ((i + 1 : Nat) : Int) := by rw [Go.Bm.bB (by omega) (by omega)]; omega
  have ih := Ez v p2 j p1 h k (i + 1) n (jO v.Kids[i].Key true m) (by omega) (by omega) (fun p hp => by
   rcases Ej hp with e | ⟨q, hq, e⟩
   ·exact ⟨i, v.Kids[i], by omega, List.getElem?_eq_getElem hlt, e.symm⟩
   ·obtain ⟨q', b, h1, h2, h3⟩ := hm q hq
    exact ⟨q', b, by omega, h2, h3.trans e⟩)
  rw [fP, if_pos (by simp; omega), iP hlt]
  simp only [Option.bind_some, hw2, ih]
  cases hq : dA v.Kids[i].Key (⟨#[]⟩ : ByteArray)
  ·have hnone : m.lookup v.Kids[i].Key = none := Ep fun p hp e => by
    obtain ⟨q, b, h1, h2, h3⟩ := hm p hp
    have := h.keys i q v.Kids[i] b h1 (List.getElem?_eq_getElem hlt) h2 hq
    rw [h3, e, gT] at this
    cases this
   simp only [Bool.not_false, Dv, Option.bind_some, lS, lA, hnone, Option.getD_none, show (default : Bool) = false from rfl, Bool.and_false, Bool.false_eq_true, if_false]
  ·simp only [Bool.not_true, aA0, Option.bind_some, Bool.false_and, Bool.false_eq_true, if_false]
theorem Eh (v : aK) (self : aK → Int → Int → Option (Int × Int)) (p1 : Int) (j : Int → Option (Int × Int)) (h : Xg v) (hp : 0 ≤ p1 ∧ p1 ≤ 16) (hs : ∀ k, k ∈ v.Kids → ∀ c : Int, 0 ≤ c → c + gM k ≤ 400 → self k (p1 + 1) c = some (0, c + gM k)) : ∀ (l pre : List aK) (n : Nat) (q c : Int), v.Kids = pre ++ l → q = pre.length → l.length < n → 0 ≤ c → c + bR l ≤ 400 →
  fM v self p1 j n q c = j (c + bR l)
 | [], pre, n, q, c, hv, hq, hn, h0, h1 => by
  obtain ⟨n, rfl⟩ : ∃ m, n = m + 1 := ⟨n - 1, by simp at hn; omega⟩
  have hlen : v.Kids.length = pre.length := by rw [hv]; simp
  rw [fM, if_neg (by simp; omega)]
  simp [bR]
 | k :: l, pre, n, q, c, hv, hq, hn, h0, h1 => by
  obtain ⟨n, rfl⟩ : ∃ m, n = m + 1 := ⟨n - 1, by simp at hn; omega⟩
  have hlen : v.Kids.length = pre.length + (l.length + 1) := by rw [hv]; simp
  have hkl := h.klen
  rw [bR] at h1
  have hw : IntKind.wrap .i64 (q + 1) = q + 1 := Go.Bm.bB (by omega) (by omega)
  have hw2 : IntKind.wrap .i64 (p1 + 1) = p1 + 1 := Go.Bm.bB (by omega) (by omega)
  rw [fM, if_pos (by simp; omega), pW hv hq]
  simp only [Option.bind_some, hw, hw2]
  rw [hs k (by rw [hv]; simp) c h0 (by omega)]
  simp only [Option.bind_some, bne_self_eq_false, Bool.false_eq_true, if_false]
  rw [Eh v self p1 j h hp hs l (pre ++ [k]) n (q + 1) (c + gM k) (by rw [hv]; simp) (by simp; omega) (by simp at hn; omega) (by omega) (by omega), bR]
  congr 1
  omega
theorem Fc (v : aK) (self : aK → Int → Int → Option (Int × Int)) (p1 : Int) (j : Int → Option (Int × Int)) (h : Xg v) (hp : 0 ≤ p1 ∧ p1 ≤ 16) (hs : ∀ k, k ∈ v.Kids → ∀ c : Int, 0 ≤ c → c + gM k ≤ 400 → self k (p1 + 1) c = some (c + gM k, 0)) : ∀ (l pre : List aK) (n : Nat) (q c : Int), v.Kids = pre ++ l → q = pre.length → l.length < n → 0 ≤ c → c + bR l ≤ 400 →
  eR v self p1 j n c q = j (c + bR l)
 | [], pre, n, q, c, hv, hq, hn, h0, h1 => by
  obtain ⟨n, rfl⟩ : ∃ m, n = m + 1 := ⟨n - 1, by simp at hn; omega⟩
  have hlen : v.Kids.length = pre.length := by rw [hv]; simp
  rw [eR, if_neg (by simp; omega)]
  simp [bR]
 | k :: l, pre, n, q, c, hv, hq, hn, h0, h1 => by
  obtain ⟨n, rfl⟩ : ∃ m, n = m + 1 := ⟨n - 1, by simp at hn; omega⟩
  have hlen : v.Kids.length = pre.length + (l.length + 1) := by rw [hv]; simp
  have hkl := h.klen
  rw [bR] at h1
  have hw : IntKind.wrap .i64 (q + 1) = q + 1 := Go.Bm.bB (by omega) (by omega)
  have hw2 : IntKind.wrap .i64 (p1 + 1) = p1 + 1 := Go.Bm.bB (by omega) (by omega)
  rw [eR, if_pos (by simp; omega), pW hv hq]
  simp only [Option.bind_some, hw, hw2]
  rw [hs k (by rw [hv]; simp) c h0 (by omega)]
  simp only [Option.bind_some, bne_self_eq_false, Bool.false_eq_true, if_false]
  rw [Fc v self p1 j h hp hs l (pre ++ [k]) n (q + 1) (c + gM k) (by rw [hv]; simp) (by simp; omega) (by simp at hn; omega) (by omega) (by omega), bR]
  congr 1
  omega
theorem Bz (v : aK) : ∀ (d n : Nat) (p1 p2 : Int), sS d v → Hh v + 400 ≤ n → 0 ≤ p1 → p1 + d ≤ 17 → 0 ≤ p2 → p2 + gM v ≤ 400 → fR n v p1 p2 = some (0, p2 + gM v) ∧ eT n v p1 p2 = some (p2 + gM v, 0) := by
 induction v using jJ with
 | h v ih =>
  intro d n p1 p2 hv hn h1 h2 h3 h4
  match d, hv with
  | d + 1, ⟨hl, hk⟩ =>
  have hfu := wC v
  have hsz := kX v
  have hkl := hl.klen
  have hal := hl.alen
  have hel := hl.elen
  obtain ⟨k1, k2⟩ := hl.kind
  obtain ⟨n, rfl⟩ : ∃ m, n = m + 1 := ⟨n - 1, by omega⟩
  have hw : IntKind.wrap .i64 (p2 + 1) = p2 + 1 := Go.Bm.bB (by omega) (by omega)
  have c1 : decide (p1 > 16) = false := by simp; omega
  have c2 : decide (p2 + 1 > 400) = false := by simp; omega
  have c3 : (decide (v.Kind < 1) || decide (v.Kind > 13)) = false := by simp; omega
  have c4 : (((decide ((List.length v.Attrs : Int) > 24)) || (decide ((List.length v.Actions : Int) > 24))) || (decide ((List.length v.Kids : Int) > 100))) = false := by simp; omega
  have ih2 : ∀ k, k ∈ v.Kids → ∀ c : Int, 0 ≤ c → c + gM k ≤ 400 → fR n k (p1 + 1) c = some (0, c + gM k) ∧ eT n k (p1 + 1) c = some (c + gM k, 0) := fun k hm c hc hc2 =>
   ih k hm d n (p1 + 1) c (hk k hm) (by have := pA hm; omega) (by omega) (by omega) hc hc2
  refine ⟨?_, ?_⟩
  ·rw [fR, jD]
   simp only [hw, c1, c2, c3, c4, Bool.false_eq_true, if_false, hl.key.prog n (by omega), Option.bind_some, Bool.not_true, uY v.Attrs hal hl.attrs hl.sort n (by omega), yD v.Actions hel hl.acts n (by omega), bne_self_eq_false]
   unfold aX
   refine (Ez v p2 _ p1 hl v.Kids.length 0 n [] (by omega) (by omega) (fun p hp => nomatch hp)).trans ?_
   refine (Eh v (fun a0 a1 a2 => fR n a0 a1 a2) p1 _ hl (by omega) (fun k hm c hc hc2 => (ih2 k hm c hc hc2).1) v.Kids [] n 0 (p2 + 1) rfl rfl (by omega) (by omega) (by omega)).trans ?_
   simp only [Option.some.injEq, Prod.mk.injEq, true_and]
   omega
  ·rw [eT, iN]
   simp only [hw, c1, c2, c3, c4, Bool.false_eq_true, if_false, hl.key.ref n (by omega), Option.bind_some, Bool.not_true]
   unfold aX
   refine (Cc v p2 _ p1 hal hl.attrs hl.sort v.Attrs.length 0 n (by omega) (by omega)).trans ?_
   refine (Uh v p2 p1 _ hel hl.acts n (by omega)).trans ?_
   refine (Ml v p2 p1 _ hl v.Kids.length 0 n (by omega) (by omega)).trans ?_
   refine (Fc v (fun a0 a1 a2 => eT n a0 a1 a2) p1 _ hl (by omega) (fun k hm c hc hc2 => (ih2 k hm c hc hc2).2) v.Kids [] n 0 (p2 + 1) rfl rfl (by omega) (by omega) (by omega)).trans ?_
   simp only [Option.some.injEq, Prod.mk.injEq, and_true]
   omega
theorem Ky {v : aK} (h : sS 4 v) (n : Nat) (hn : Hh v + 400 ≤ n) : jK n v = some 0 := by
 have := sS.small 4 v h
 unfold jK
 rw [(Bz v 4 n 1 0 h hn (by decide) (by decide) (by decide) (by omega)).1]
 rfl
theorem yM {v : aK} (h : sS 4 v) (n : Nat) (hn : Hh v + 400 ≤ n) : gO n v = some 0 := by
 have := sS.small 4 v h
 unfold gO
 rw [(Bz v 4 n 1 0 h hn (by decide) (by decide) (by decide) (by omega)).2]
 rfl
theorem Ux {v : aK} (h : sS 4 v) (n : Nat) (i : Int) (hn : Hh v + 400 ≤ n) (h1 : 1 ≤ i) (h2 : i ≤ 1000000) : ∃ t, lO n v i = some (t, 0) ∧ dK t v := by
 have hs := sS.small 4 v h
 refine ⟨⟨i, i + gM v, sY i 0 v⟩, ?_, ⟨h1, by show i ≤ _; omega⟩, rfl, rfl, by omega⟩
 unfold lO
 rw [yM h n hn]
 have c1 : (decide (i < 1) || decide (i > 1099511627376)) = false := by simp; omega
 simp only [Option.bind_some, bne_self_eq_false, Bool.false_eq_true, if_false, c1]
 rw [Pk v n 0 ⟨i, i, []⟩ (by omega) h1 (by show i + _ ≤ _; omega) (by simp; omega)]
 rfl
theorem Jp {t : bD} {v : aK} (h : dK t v) (hv : sS 4 v) (n : Nat) (hn : Hh v + 3000 ≤ n) : lL n t = some 0 := by
 unfold lL
 rw [Lr h n hn, Ky hv n (by omega)]
 rfl
end Go.Proofs.YtojkihhnioeggaaGreatDoor.S
