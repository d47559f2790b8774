import Derived.Test.YtojkihhnioeggaaGreatDoorQRVw1
import Derived.Test.YtojkihhnioeggaaGreatDoorQRUt1
import Derived.WalkKit
import Derived.WalkSpells
import Derived.WalkLawsBesides
import Derived.Deep.QuietTactic
import Derived.BigQuiet
import Derived.BigRegion
import Derived.Lib.Hide
import Derived.Deep.RegionWith
set_option linter.unusedSimpArgs false
set_option linter.unusedVariables false
set_option linter.unusedSimpArgs false
set_option linter.unusedVariables false
namespace Go.Proofs.YtojkihhnioeggaaGreatDoor.S
open Go Go.Bm
theorem Ab {α β : Type} [BEq α] [LawfulBEq α] {k : α} : ∀ {m : List (α × β)}, (∀ p, p ∈ m → p.1 ≠ k) → m.lookup k = none
 | [], _ => rfl
 | p :: m, h => by
  have : (k == p.1) = false := by rw [beq_eq_false_iff_ne]; exact fun e => h p (by simp) e.symm
  rw [List.lookup_cons, this]
  exact Ab fun q hq => h q (by simp [hq])
theorem zD {α β : Type} [BEq α] [LawfulBEq α] {k : α} {v : β} {p : α × β} : ∀ {m : List (α × β)}, p ∈ iF k v m → p.1 = k ∨ ∃ q, q ∈ m ∧ q.1 = p.1
 | [], h => by
  rw [iF, List.mem_singleton] at h
  exact .inl (h ▸ rfl)
 | q :: m, h => by
  rw [iF] at h
  split at h
  ·rcases List.mem_cons.1 h with rfl | h
   ·exact .inr ⟨q, by simp, rfl⟩
   ·exact .inr ⟨p, by simp [h], rfl⟩
  ·rcases List.mem_cons.1 h with rfl | h
   ·exact .inr ⟨p, by simp, rfl⟩
   ·rcases zD h with h | ⟨x, hx, e⟩
    ·exact .inl h
    ·exact .inr ⟨x, by simp [hx], e⟩
theorem eY (x : ByteArray) : cS x x = true := by unfold cS; exact beq_self_eq_true _
theorem Ii (v : aG) (p2 : Int) (j : Unit → Option (Int × Int)) (p1 : Int) (h : Loc v) : ∀ (k i n : Nat) (m : List (ByteArray × Bool)), i + k = v.Kids.length → k < n → (∀ p, p ∈ m → ∃ (q : Nat) (b : aG), q < i ∧ v.Kids[q]? = some b ∧ b.Key = p.1) → fP v p2 j p1 n (i : Int) m = j ()
 | 0, i, n, m, hi, hn, hm => by
  obtain ⟨n, rfl⟩ : ∃ q, n = q + 1 := ⟨n - 1, by omega⟩
  rw [fP, if_neg (by simp; omega)]
 | k + 1, i, n, m, hi, hn, hm => by
  obtain ⟨n, rfl⟩ : ∃ q, n = q + 1 := ⟨n - 1, by omega⟩
  have hkl := h.klen
  have hlt : i < v.Kids.length := by omega
  have hw2 : IntKind.wrap .i64 ((i : Int) + 1) = ((i + 1 : Nat) : Int) := by rw [Go.Bm.aS (by omega) (by omega)]; omega
  have ih := Ii v p2 j p1 h k (i + 1) n (iF v.Kids[i].Key true m) (by omega) (by omega) (fun p hp => by
   rcases zD hp with e | ⟨q, hq, e⟩
   ·exact ⟨i, v.Kids[i], by omega, List.getElem?_eq_getElem hlt, e.symm⟩
   ·obtain ⟨q', b, h1, h2, h3⟩ := hm q hq
    exact ⟨q', b, by omega, h2, h3.trans e⟩)
  rw [fP, if_pos (by simp; omega), dS hlt]
  simp only [Option.bind_some, hw2, ih]
  cases hq : cS v.Kids[i].Key (⟨#[]⟩ : ByteArray)
  ·have hnone : m.lookup v.Kids[i].Key = none := Ab fun p hp e => by
    obtain ⟨q, b, h1, h2, h3⟩ := hm p hp
    have := h.keys i q v.Kids[i] b h1 (List.getElem?_eq_getElem hlt) h2 hq
    rw [h3, e, eY] at this
    cases this
   simp only [Bool.not_false, Js, Option.bind_some, eN, jZ, hnone, Option.getD_none, show (default : Bool) = false from rfl, Bool.and_false, Bool.false_eq_true, if_false]
  ·simp only [Bool.not_true, gd_f, Option.bind_some, Bool.false_and, Bool.false_eq_true, if_false]
theorem Hu (v : aG) (self : aG → Int → Int → Option (Int × Int)) (p1 : Int) (j : Int → Option (Int × Int)) (h : Loc v) (hp : 0 ≤ p1 ∧ p1 ≤ 16) (hs : ∀ k, k ∈ v.Kids → ∀ c : Int, 0 ≤ c → c + gD k ≤ 400 → self k (p1 + 1) c = some (0, c + gD k)) : ∀ (l pre : List aG) (n : Nat) (q c : Int), v.Kids = pre ++ l → q = pre.length → l.length < n → 0 ≤ c → c + cA l ≤ 400 →
  fS v self p1 j n q c = j (c + cA l)
 | [], pre, n, q, c, hv, hq, hn, h0, h1 => by
  obtain ⟨n, rfl⟩ : ∃ m, n = m + 1 := ⟨n - 1, by simp at hn; omega⟩
  have hlen : v.Kids.length = pre.length := by rw [hv]; simp
  rw [fS, if_neg (by simp; omega)]
  simp [cA]
 | k :: l, pre, n, q, c, hv, hq, hn, h0, h1 => by
  obtain ⟨n, rfl⟩ : ∃ m, n = m + 1 := ⟨n - 1, by simp at hn; omega⟩
  have hlen : v.Kids.length = pre.length + (l.length + 1) := by rw [hv]; simp
  have hkl := h.klen
  rw [cA] at h1
  have hw : IntKind.wrap .i64 (q + 1) = q + 1 := Go.Bm.aS (by omega) (by omega)
  have hw2 : IntKind.wrap .i64 (p1 + 1) = p1 + 1 := Go.Bm.aS (by omega) (by omega)
  rw [fS, if_pos (by simp; omega), jQ hv hq]
  simp only [Option.bind_some, hw, hw2]
  rw [hs k (by rw [hv]; simp) c h0 (by omega)]
  simp only [Option.bind_some, bne_self_eq_false, Bool.false_eq_true, if_false]
  rw [Hu v self p1 j h hp hs l (pre ++ [k]) n (q + 1) (c + gD k) (by rw [hv]; simp) (by simp; omega) (by simp at hn; omega) (by omega) (by omega), cA]
  congr 1
  omega
theorem Gt (v : aG) (self : aG → Int → Int → Option (Int × Int)) (p1 : Int) (j : Int → Option (Int × Int)) (h : Loc v) (hp : 0 ≤ p1 ∧ p1 ≤ 16) (hs : ∀ k, k ∈ v.Kids → ∀ c : Int, 0 ≤ c → c + gD k ≤ 400 → self k (p1 + 1) c = some (c + gD k, 0)) : ∀ (l pre : List aG) (n : Nat) (q c : Int), v.Kids = pre ++ l → q = pre.length → l.length < n → 0 ≤ c → c + cA l ≤ 400 →
  fF v self p1 j n c q = j (c + cA l)
 | [], pre, n, q, c, hv, hq, hn, h0, h1 => by
  obtain ⟨n, rfl⟩ : ∃ m, n = m + 1 := ⟨n - 1, by simp at hn; omega⟩
  have hlen : v.Kids.length = pre.length := by rw [hv]; simp
  rw [fF, if_neg (by simp; omega)]
  simp [cA]
 | k :: l, pre, n, q, c, hv, hq, hn, h0, h1 => by
  obtain ⟨n, rfl⟩ : ∃ m, n = m + 1 := ⟨n - 1, by simp at hn; omega⟩
  have hlen : v.Kids.length = pre.length + (l.length + 1) := by rw [hv]; simp
  have hkl := h.klen
  rw [cA] at h1
  have hw : IntKind.wrap .i64 (q + 1) = q + 1 := Go.Bm.aS (by omega) (by omega)
  have hw2 : IntKind.wrap .i64 (p1 + 1) = p1 + 1 := Go.Bm.aS (by omega) (by omega)
  rw [fF, if_pos (by simp; omega), jQ hv hq]
  simp only [Option.bind_some, hw, hw2]
  rw [hs k (by rw [hv]; simp) c h0 (by omega)]
  simp only [Option.bind_some, bne_self_eq_false, Bool.false_eq_true, if_false]
  rw [Gt v self p1 j h hp hs l (pre ++ [k]) n (q + 1) (c + gD k) (by rw [hv]; simp) (by simp; omega) (by simp at hn; omega) (by omega) (by omega), cA]
  congr 1
  omega
theorem Fl (v : aG) : ∀ (d n : Nat) (p1 p2 : Int), oT d v → Fy v + 400 ≤ n → 0 ≤ p1 → p1 + d ≤ 17 → 0 ≤ p2 → p2 + gD v ≤ 400 → fZ n v p1 p2 = some (0, p2 + gD v) ∧ fI n v p1 p2 = some (p2 + gD v, 0) := by
 induction v using kD with
 | h v ih =>
  intro d n p1 p2 hv hn h1 h2 h3 h4
  match d, hv with
  | d + 1, ⟨hl, hk⟩ =>
  have hfu := xB v
  have hsz := lV v
  have hkl := hl.klen
  have hal := hl.alen
  have hel := hl.elen
  obtain ⟨k1, k2⟩ := hl.kind
  obtain ⟨n, rfl⟩ : ∃ m, n = m + 1 := ⟨n - 1, by omega⟩
  have hw : IntKind.wrap .i64 (p2 + 1) = p2 + 1 := Go.Bm.aS (by omega) (by omega)
  have c1 : decide (p1 > 16) = false := by simp; omega
  have c2 : decide (p2 + 1 > 400) = false := by simp; omega
  have c3 : (decide (v.Kind < 1) || decide (v.Kind > 13)) = false := by simp; omega
  have c4 : (((decide ((List.length v.Attrs : Int) > 24)) || (decide ((List.length v.Actions : Int) > 24))) || (decide ((List.length v.Kids : Int) > 100))) = false := by simp; omega
  have ih2 : ∀ k, k ∈ v.Kids → ∀ c : Int, 0 ≤ c → c + gD k ≤ 400 → fZ n k (p1 + 1) c = some (0, c + gD k) ∧ fI n k (p1 + 1) c = some (c + gD k, 0) := fun k hm c hc hc2 =>
   ih k hm d n (p1 + 1) c (hk k hm) (by have := qA hm; omega) (by omega) (by omega) hc hc2
  refine ⟨?_, ?_⟩
  ·rw [fZ, jS]
   simp only [hw, c1, c2, c3, c4, Bool.false_eq_true, if_false, hl.key.prog n (by omega), Option.bind_some, Bool.not_true, wI v.Attrs hal hl.attrs hl.sort n (by omega), Ah v.Actions hel hl.acts n (by omega), bne_self_eq_false]
   unfold aR
   refine (Ii v p2 _ p1 hl v.Kids.length 0 n [] (by omega) (by omega) (fun p hp => nomatch hp)).trans ?_
   refine (Hu v (fun a0 a1 a2 => fZ n a0 a1 a2) p1 _ hl (by omega) (fun k hm c hc hc2 => (ih2 k hm c hc hc2).1) v.Kids [] n 0 (p2 + 1) rfl rfl (by omega) (by omega) (by omega)).trans ?_
   simp only [Option.some.injEq, Prod.mk.injEq, true_and]
   omega
  ·rw [fI, jG]
   simp only [hw, c1, c2, c3, c4, Bool.false_eq_true, if_false, hl.key.ref n (by omega), Option.bind_some, Bool.not_true]
   unfold aR
   refine (Ec v p2 _ p1 hal hl.attrs hl.sort v.Attrs.length 0 n (by omega) (by omega)).trans ?_
   refine (Zn v p2 p1 _ hel hl.acts n (by omega)).trans ?_
   refine (Qs v p2 p1 _ hl v.Kids.length 0 n (by omega) (by omega)).trans ?_
   refine (Gt v (fun a0 a1 a2 => fI n a0 a1 a2) p1 _ hl (by omega) (fun k hm c hc hc2 => (ih2 k hm c hc hc2).2) v.Kids [] n 0 (p2 + 1) rfl rfl (by omega) (by omega) (by omega)).trans ?_
   simp only [Option.some.injEq, Prod.mk.injEq, and_true]
   omega
theorem Ep {v : aG} (h : oT 4 v) (n : Nat) (hn : Fy v + 400 ≤ n) : kJ n v = some 0 := by
 have := oT.small 4 v h
 unfold kJ
 rw [(Fl v 4 n 1 0 h hn (by decide) (by decide) (by decide) (by omega)).1]
 rfl
theorem Ao {v : aG} (h : oT 4 v) (n : Nat) (hn : Fy v + 400 ≤ n) : iA n v = some 0 := by
 have := oT.small 4 v h
 unfold iA
 rw [(Fl v 4 n 1 0 h hn (by decide) (by decide) (by decide) (by omega)).2]
 rfl
theorem aA2 {v : aG} (h : oT 4 v) (n : Nat) (i : Int) (hn : Fy v + 400 ≤ n) (h1 : 1 ≤ i) (h2 : i ≤ 1000000) : ∃ t, nA n v i = some (t, 0) ∧ cT t v := by
 have hs := oT.small 4 v h
 refine ⟨⟨i, i + gD v, vK i 0 v⟩, ?_, ⟨h1, by show i ≤ _; omega⟩, rfl, rfl, by omega⟩
 unfold nA
 rw [Ao h n hn]
 have c1 : (decide (i < 1) || decide (i > 1099511627376)) = false := by simp; omega
 simp only [Option.bind_some, bne_self_eq_false, Bool.false_eq_true, if_false, c1]
 rw [Vh v n 0 ⟨i, i, []⟩ (by omega) h1 (by show i + _ ≤ _; omega) (by simp; omega)]
 rfl
theorem Xp {t : bA} {v : aG} (h : cT t v) (hv : oT 4 v) (n : Nat) (hn : Fy v + 3000 ≤ n) : qC n t = some 0 := by
 unfold qC
 rw [Fc h n hn, Ep hv n (by omega)]
 rfl
end Go.Proofs.YtojkihhnioeggaaGreatDoor.S
