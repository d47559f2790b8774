import Derived.Test.YtojkihhnioeggaaGreatDoorQEVw1
import Derived.Test.YtojkihhnioeggaaGreatDoorQEUt1
import Derived.WalkLawsBesides
import Derived.Deep.QuietTactic
import Derived.BigQuiet
import Derived.BigRegion
import Derived.Lib.Hide
import Derived.Deep.RegionWith
set_option linter.unusedSimpArgs false
set_option linter.all false
set_option linter.unusedVariables false
namespace Go.Proofs.YtojkihhnioeggaaGreatDoor.S
open Go Go.Bm
theorem uT {α β : Type} [BEq α] [LawfulBEq α] {k : α} : ∀ {m : List (α × β)}, (∀ p, p ∈ m → p.1 ≠ k) → m.lookup k = none
 | [], _ => rfl
 | p :: m, h => by
  have : (k == p.1) = false := by rw [beq_eq_false_iff_ne]; exact fun e => h p (by simp) e.symm
  rw [List.lookup_cons, this]
  exact uT fun q hq => h q (by simp [hq])
theorem Cu {α β : Type} [BEq α] [LawfulBEq α] {k : α} {v : β} {p : α × β} : ∀ {m : List (α × β)}, p ∈ gS k v m → p.1 = k ∨ ∃ q, q ∈ m ∧ q.1 = p.1
 | [], h => by
  rw [gS, List.mem_singleton] at h
  exact .inl (h ▸ rfl)
 | q :: m, h => by
  rw [gS] at h
  split at h
  ·rcases List.mem_cons.1 h with rfl | h
   ·exact .inr ⟨q, by simp, rfl⟩
   ·exact .inr ⟨p, by simp [h], rfl⟩
  ·rcases List.mem_cons.1 h with rfl | h
   ·exact .inr ⟨p, by simp, rfl⟩
   ·rcases Cu h with h | ⟨x, hx, e⟩
    ·exact .inl h
    ·exact .inr ⟨x, by simp [hx], e⟩
theorem fR (x : ByteArray) : bP x x = true := by unfold bP; exact beq_self_eq_true _
theorem Mn (v : aN) (p2 : Int) (j : Unit → Option (Int × Int)) (p1 : Int) (h : Loc v) : ∀ (k i n : Nat) (m : List (ByteArray × Bool)), i + k = v.Kids.length → k < n → (∀ p, p ∈ m → ∃ (q : Nat) (b : aN), q < i ∧ v.Kids[q]? = some b ∧ b.Key = p.1) → gQ v p2 j p1 n (i : Int) m = j ()
 | 0, i, n, m, hi, hn, hm => by
  obtain ⟨n, rfl⟩ : ∃ q, n = q + 1 := ⟨n - 1, by omega⟩
  rw [gQ, if_neg (by simp; omega)]
 | k + 1, i, n, m, hi, hn, hm => by
  obtain ⟨n, rfl⟩ : ∃ q, n = q + 1 := ⟨n - 1, by omega⟩
  have hkl := h.klen
  have ae : i < v.Kids.length := by omega
  have ao : w6 ((i : Int) + 1) = ((i + 1 : Nat) : Int) := by rw [wS (by omega) (by omega)]; omega
  have ih := Mn v p2 j p1 h k (i + 1) n (gS v.Kids[i].Key true m) (by omega) (by omega) (fun p hp => by
   rcases Cu hp with e | ⟨q, hq, e⟩
   ·exact ⟨i, v.Kids[i], by omega, List.getElem?_eq_getElem ae, e.symm⟩
   ·obtain ⟨q', b, h1, h2, h3⟩ := hm q hq
    exact ⟨q', b, by omega, h2, h3.trans e⟩)
  rw [gQ, if_pos (by simp; omega), dR ae]
  simp only [oB, ao, ih]
  cases hq : bP v.Kids[i].Key nB
  ·have aj : m.lookup v.Kids[i].Key = none := uT fun p hp e => by
    obtain ⟨q, b, h1, h2, h3⟩ := hm p hp
    have := h.keys i q v.Kids[i] b h1 (List.getElem?_eq_getElem ae) h2 hq
    rw [h3, e, fR] at this
    cases this
   simp only [Bool.not_false, Ip, oB, cZ, iG, aj, Option.getD_none, show (default : Bool) = false from rfl, Bool.and_false, fT, if_false]
  ·simp only [Bool.not_true, gd_f, oB, Bool.false_and, fT, if_false]
theorem Ma (v : aN) (self : aN → Int → Int → Option (Int × Int)) (p1 : Int) (j : Int → Option (Int × Int)) (h : Loc v) (hp : 0 ≤ p1 ∧ p1 ≤ 16) (hs : ∀ k, k ∈ v.Kids → ∀ c : Int, 0 ≤ c → c + eU k ≤ 400 → self k (p1 + 1) c = some (0, c + eU k)) : ∀ (l pre : List aN) (n : Nat) (q c : Int), v.Kids = pre ++ l → q = pre.length → l.length < n → 0 ≤ c → c + bY l ≤ 400 →
  gT v self p1 j n q c = j (c + bY l)
 | [], pre, n, q, c, hv, hq, hn, h0, h1 => by
  obtain ⟨n, rfl⟩ := nS n (by simp at hn; omega)
  have ab : v.Kids.length = pre.length := by rw [hv]; simp
  rw [gT, if_neg (by simp; omega)]
  simp [bY]
 | k :: l, pre, n, q, c, hv, hq, hn, h0, h1 => by
  obtain ⟨n, rfl⟩ := nS n (by simp at hn; omega)
  have ab : v.Kids.length = pre.length + (l.length + 1) := by rw [hv]; simp
  have hkl := h.klen
  rw [bY] at h1
  have hw : w6 (q + 1) = q + 1 := wS (by omega) (by omega)
  have ao : w6 (p1 + 1) = p1 + 1 := wS (by omega) (by omega)
  rw [gT, if_pos (by simp; omega), kI hv hq]
  simp only [oB, hw, ao]
  rw [hs k (by rw [hv]; simp) c h0 (by omega)]
  simp only [oB, bne_self_eq_false, fT, if_false]
  rw [Ma v self p1 j h hp hs l (pre ++ [k]) n (q + 1) (c + eU k) (by rw [hv]; simp) (by simp; omega) (by simp at hn; omega) (by omega) (by omega), bY]
  congr 1
  omega
theorem Kw (v : aN) (self : aN → Int → Int → Option (Int × Int)) (p1 : Int) (j : Int → Option (Int × Int)) (h : Loc v) (hp : 0 ≤ p1 ∧ p1 ≤ 16) (hs : ∀ k, k ∈ v.Kids → ∀ c : Int, 0 ≤ c → c + eU k ≤ 400 → self k (p1 + 1) c = some (c + eU k, 0)) : ∀ (l pre : List aN) (n : Nat) (q c : Int), v.Kids = pre ++ l → q = pre.length → l.length < n → 0 ≤ c → c + bY l ≤ 400 →
  dD v self p1 j n c q = j (c + bY l)
 | [], pre, n, q, c, hv, hq, hn, h0, h1 => by
  obtain ⟨n, rfl⟩ := nS n (by simp at hn; omega)
  have ab : v.Kids.length = pre.length := by rw [hv]; simp
  rw [dD, if_neg (by simp; omega)]
  simp [bY]
 | k :: l, pre, n, q, c, hv, hq, hn, h0, h1 => by
  obtain ⟨n, rfl⟩ := nS n (by simp at hn; omega)
  have ab : v.Kids.length = pre.length + (l.length + 1) := by rw [hv]; simp
  have hkl := h.klen
  rw [bY] at h1
  have hw : w6 (q + 1) = q + 1 := wS (by omega) (by omega)
  have ao : w6 (p1 + 1) = p1 + 1 := wS (by omega) (by omega)
  rw [dD, if_pos (by simp; omega), kI hv hq]
  simp only [oB, hw, ao]
  rw [hs k (by rw [hv]; simp) c h0 (by omega)]
  simp only [oB, bne_self_eq_false, fT, if_false]
  rw [Kw v self p1 j h hp hs l (pre ++ [k]) n (q + 1) (c + eU k) (by rw [hv]; simp) (by simp; omega) (by simp at hn; omega) (by omega) (by omega), bY]
  congr 1
  omega
theorem Jn (v : aN) : ∀ (d n : Nat) (p1 p2 : Int), Rw d v → Cq v + 400 ≤ n → 0 ≤ p1 → p1 + d ≤ 17 → 0 ≤ p2 → p2 + eU v ≤ 400 → hP n v p1 p2 = some (0, p2 + eU v) ∧ dH n v p1 p2 = some (p2 + eU v, 0) := by
 induction v using kU with
 | h v ih =>
  intro d n p1 p2 hv hn h1 h2 h3 h4
  match d, hv with
  | d + 1, ⟨hl, hk⟩ =>
  have hfu := vX v
  have ah := jF v
  have hkl := hl.klen
  have hal := hl.alen
  have hel := hl.elen
  obtain ⟨k1, k2⟩ := hl.kind
  obtain ⟨n, rfl⟩ := nS n (by omega)
  have hw : w6 (p2 + 1) = p2 + 1 := wS (by omega) (by omega)
  have c1 : decide (p1 > 16) = false := by simp; omega
  have c2 : decide (p2 + 1 > 400) = false := by simp; omega
  have c3 : (decide (v.Kind < 1) || decide (v.Kind > 13)) = false := by simp; omega
  have c4 : (((decide ((List.length v.Attrs : Int) > 24)) || (decide ((List.length v.Actions : Int) > 24))) || (decide ((List.length v.Kids : Int) > 100))) = false := by simp; omega
  have ih2 : ∀ k, k ∈ v.Kids → ∀ c : Int, 0 ≤ c → c + eU k ≤ 400 → hP n k (p1 + 1) c = some (0, c + eU k) ∧ dH n k (p1 + 1) c = some (c + eU k, 0) := fun k hm c hc hc2 =>
   ih k hm d n (p1 + 1) c (hk k hm) (by have := qU hm; omega) (by omega) (by omega) hc hc2
  refine ⟨?_, ?_⟩
  ·rw [hP, lM]
   simp only [hw, c1, c2, c3, c4, fT, if_false, hl.key.prog n (by omega), oB, Bool.not_true, zB v.Attrs hal hl.attrs hl.sort n (by omega), Dy v.Actions hel hl.acts n (by omega), bne_self_eq_false]
   unfold aS
   refine (Mn v p2 _ p1 hl v.Kids.length 0 n [] (by omega) (by omega) (fun p hp => nomatch hp)).trans ?_
   refine (Ma v (fun a0 a1 a2 => hP n a0 a1 a2) p1 _ hl (by omega) (fun k hm c hc hc2 => (ih2 k hm c hc hc2).1) v.Kids [] n 0 (p2 + 1) rfl rfl (by omega) (by omega) (by omega)).trans ?_
   simp only [Option.some.injEq, Prod.mk.injEq, true_and]
   omega
  ·rw [dH, iU]
   simp only [hw, c1, c2, c3, c4, fT, if_false, hl.key.ref n (by omega), oB, Bool.not_true]
   unfold aS
   refine (zY v p2 _ p1 hal hl.attrs hl.sort v.Attrs.length 0 n (by omega) (by omega)).trans ?_
   refine (Vp v p2 p1 _ hel hl.acts n (by omega)).trans ?_
   refine (Vi v p2 p1 _ hl v.Kids.length 0 n (by omega) (by omega)).trans ?_
   refine (Kw v (fun a0 a1 a2 => dH n a0 a1 a2) p1 _ hl (by omega) (fun k hm c hc hc2 => (ih2 k hm c hc hc2).2) v.Kids [] n 0 (p2 + 1) rfl rfl (by omega) (by omega) (by omega)).trans ?_
   simp only [Option.some.injEq, Prod.mk.injEq, and_true]
   omega
theorem Is {v : aN} (h : VG v) (n : Nat) (hn : Cq v + 400 ≤ n) : lX n v = some 0 := by
 have := h.small
 unfold lX
 rw [(Jn v 13 n 1 0 h.ok hn (by decide) (by decide) (by decide) (by omega)).1]
 rfl
theorem Ee {v : aN} (h : VG v) (n : Nat) (hn : Cq v + 400 ≤ n) : eY n v = some 0 := by
 have := h.small
 unfold eY
 rw [(Jn v 13 n 1 0 h.ok hn (by decide) (by decide) (by decide) (by omega)).2]
 rfl
theorem Wb {v : aN} (h : VG v) (n : Nat) (i : Int) (hn : Cq v + 400 ≤ n) (h1 : 1 ≤ i) (h2 : i ≤ 1000000) : ∃ t, nC n v i = some (t, 0) ∧ cR t v := by
 have hs := h.small
 refine ⟨⟨i, i + eU v, yA i 0 v⟩, ?_, ⟨h1, by show i ≤ _; omega⟩, rfl, rfl, by omega⟩
 unfold nC
 rw [Ee h n hn]
 have c1 : (decide (i < 1) || decide (i > 1099511627376)) = false := by simp; omega
 simp only [oB, bne_self_eq_false, fT, if_false, c1]
 rw [Zw v n 0 ⟨i, i, []⟩ (by omega) h1 (by show i + _ ≤ _; omega) (by simp; omega)]
 rfl
theorem Ro {t : bA} {v : aN} (h : cR t v) (hv : VG v) (n : Nat) (hn : Cq v + 3000 ≤ n) : qE n t = some 0 := by
 unfold qE
 rw [Jf h n hn, Is hv n (by omega)]
 rfl
end Go.Proofs.YtojkihhnioeggaaGreatDoor.S
