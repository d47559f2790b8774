import Derived.Test.YtojkihhnioeggaaGreatDoorQMGJ11
import Derived.Test.YtojkihhnioeggaaGreatDoorQMDr9
import Derived.WalkKit
import Derived.WalkSpells
import Derived.WalkLawsBesides
import Derived.Deep.QuietTactic
import Derived.BigQuiet
import Derived.BigRegion
import Derived.Lib.Hide
import Derived.Deep.RegionWith
set_option linter.unusedSimpArgs false
set_option linter.unusedVariables false
set_option linter.unusedSimpArgs false
set_option linter.unusedVariables false
namespace Go.Proofs.YtojkihhnioeggaaGreatDoor.S
open Go Go.Bm
mutual
def gP : aL → Nat
 | ⟨_, _, _, _, kids⟩ => 1 + bX kids
def bX : List aL → Nat
 | [] => 0
 | v :: l => gP v + bX l
end
theorem lL (v : aL) : gP v = 1 + bX v.Kids := by cases v; rfl
theorem sH (v : aL) : 1 ≤ gP v := by rw [lL]; omega
theorem rQ {k : aL} : ∀ {l : List aL}, k ∈ l → gP k ≤ bX l
 | [], h => nomatch h
 | v :: l, h => by
  rw [bX]
  rcases List.mem_cons.1 h with rfl | h
  ·omega
  ·have := rQ h; omega
theorem jY {P : aL → Prop} (h : ∀ v, (∀ k, k ∈ v.Kids → P k) → P v) (v : aL) : P v := by
 have key : ∀ (m : Nat) (v : aL), gP v ≤ m → P v := by
  intro m
  induction m with
  | zero => intro v hv; have := sH v; omega
  | succ m ih =>
   intro v hv
   refine h v fun k hk => ih k ?_
   have := rQ hk
   rw [lL] at hv
   omega
 exact key _ v (Nat.le_refl _)
mutual
def Fi : aL → Nat
 | ⟨_, _, at_, ac, kids⟩ => at_.length + ac.length + kids.length + 60 + Kb kids
def Kb : List aL → Nat
 | [] => 0
 | v :: l => Fi v + Kb l
end
theorem wT (v : aL) : Fi v = v.Attrs.length + v.Actions.length + v.Kids.length + 60 + Kb v.Kids := by cases v; rfl
theorem qE {k : aL} : ∀ {l : List aL}, k ∈ l → Fi k ≤ Kb l
 | [], h => nomatch h
 | v :: l, h => by
  rw [Kb]
  rcases List.mem_cons.1 h with rfl | h
  ·omega
  ·have := qE h; omega
def qW : Int → List aL → List Int
 | _, [] => []
 | i, v :: l => i :: qW (i + gP v) l
mutual
def uH : Int → Int → aL → List aR
 | i, p, ⟨k, key, at_, ac, kids⟩ => ⟨i, p, k, key, at_, ac, qW (i + 1) kids⟩ :: kL (i + 1) i kids
def kL : Int → Int → List aL → List aR
 | _, _, [] => []
 | i, p, v :: l => uH i p v ++ kL (i + gP v) p l
end
def hd (i p : Int) (v : aL) : aR := ⟨i, p, v.Kind, v.Key, v.Attrs, v.Actions, qW (i + 1) v.Kids⟩
theorem mB (i p : Int) (v : aL) : uH i p v = hd i p v :: kL (i + 1) i v.Kids := by cases v; rfl
theorem oZ : ∀ (i : Int) (l : List aL), (qW i l).length = l.length
 | _, [] => rfl
 | i, v :: l => by simp [qW, oZ]
theorem Af : ∀ (l : List aL), (∀ k, k ∈ l → ∀ i p, (uH i p k).length = gP k) → ∀ i p, (kL i p l).length = bX l
 | [], _, _, _ => rfl
 | v :: l, h, i, p => by
  rw [kL, bX, List.length_append, h v (by simp), Af l fun k hk => h k (by simp [hk])]
theorem Ip (v : aL) : ∀ i p, (uH i p v).length = gP v := by
 induction v using jY with
 | h v ih =>
  intro i p
  rw [mB, lL, List.length_cons, Af v.Kids ih]
  omega
theorem Ck (v : aL) (self : aL → Int → bC → Option bC) (p2 : bC) (j : List Int → Int → Int → List aR → Option bC) (hs : ∀ k, k ∈ v.Kids → ∀ t : bC, 1 ≤ t.Next → t.Next + (gP k : Int) ≤ 2000000000000 → t.Nodes.length + gP k ≤ 1000 → self k p2.Next t = some ⟨t.Root, t.Next + gP k, t.Nodes ++ uH t.Next p2.Next k⟩) (hk : v.Kids.length ≤ 1000) :
  ∀ (l pre : List aL) (n : Nat) (a : List Int) (q r s : Int) (N : List aR), v.Kids = pre ++ l → q = pre.length → l.length < n → a.length + l.length ≤ 1000 → 1 ≤ s → s + bX l ≤ 2000000000000 → N.length + bX l ≤ 1000 →
   hP v self p2 j n a q r s N = j (a ++ qW s l) r (s + bX l) (N ++ kL s p2.Next l)
 | [], pre, n, a, q, r, s, N, hv, hq, hn, ha, h1, h2, h3 => by
  obtain ⟨n, rfl⟩ : ∃ m, n = m + 1 := ⟨n - 1, by simp at hn; omega⟩
  have hlen : v.Kids.length = pre.length := by rw [hv]; simp
  rw [hP, if_neg (by simp; omega)]
  simp [qW, kL, bX]
 | k :: l, pre, n, a, q, r, s, N, hv, hq, hn, ha, h1, h2, h3 => by
  obtain ⟨n, rfl⟩ : ∃ m, n = m + 1 := ⟨n - 1, by simp at hn; omega⟩
  have hlen : v.Kids.length = pre.length + (l.length + 1) := by rw [hv]; simp
  have hz := sH k
  rw [bX] at h2 h3
  rw [hP, if_pos (by simp; omega)]
  have hap : pE 8 a [s] = some (a ++ [s]) := by
   obtain ⟨b, hb, rfl⟩ := dY (b := 8) (l := a) (els := [s]) (by simp at ha ⊢; omega) (by decide)
   exact hb
  have hix : idx v.Kids q = some k := by
   unfold idx
   rw [if_pos (by omega), hq, Int.toNat_natCast, hv, List.getElem?_append_right (Nat.le_refl _), Nat.sub_self]
   rfl
  have hw : IntKind.wrap .i64 (q + 1) = q + 1 := Go.Bm.bB (by omega) (by omega)
  rw [hap, hix]
  simp only [Option.bind_some]
  rw [hs k (by rw [hv]; simp) ⟨r, s, N⟩ h1 (by show s + _ ≤ _; omega) (by show N.length + _ ≤ _; omega)]
  simp only [Option.bind_some, hw]
  rw [Ck v self p2 j hs hk l (pre ++ [k]) n (a ++ [s]) (q + 1) r (s + gP k) (N ++ uH s p2.Next k) (by rw [hv]; simp) (by simp; omega) (by simp at hn; omega) (by simp at ha ⊢; omega) (by omega) (by omega) (by rw [List.length_append, Ip]; omega)]
  rw [qW, kL, bX]
  simp only [List.append_assoc, List.cons_append, List.nil_append]
  congr 1
  omega
theorem Rl (v : aL) : ∀ (n : Nat) (p : Int) (t : bC), Fi v ≤ n → 1 ≤ t.Next → t.Next + gP v ≤ 2000000000000 → t.Nodes.length + gP v ≤ 1000 → jI n v p t = some ⟨t.Root, t.Next + gP v, t.Nodes ++ uH t.Next p v⟩ := by
 induction v using jY with
 | h v ih =>
  intro n p t hn h1 h2 h3
  have hfu := wT v
  have hsz := lL v
  obtain ⟨n, rfl⟩ : ∃ m, n = m + 1 := ⟨n - 1, by omega⟩
  have hkl : v.Kids.length ≤ bX v.Kids := by
   have : ∀ l : List aL, l.length ≤ bX l := by
    intro l
    induction l with
    | nil => simp [bX]
    | cons k l ih => rw [bX, List.length_cons]; have := sH k; omega
   exact this _
  rw [jI, lD]
  have hap : pE 112 t.Nodes [(aR.mk t.Next p v.Kind v.Key v.Attrs v.Actions ([] : List Int))] = some (t.Nodes ++ [(aR.mk t.Next p v.Kind v.Key v.Attrs v.Actions ([] : List Int))]) := by
   obtain ⟨b, hb, rfl⟩ := dY (b := 112) (l := t.Nodes) (els := [(aR.mk t.Next p v.Kind v.Key v.Attrs v.Actions ([] : List Int))]) (by simp; omega) (by decide)
   exact hb
  have hw : IntKind.wrap .i64 (t.Next + 1) = t.Next + 1 := Go.Bm.bB (by omega) (by omega)
  rw [hap]
  simp only [Option.bind_some, hw]
  unfold aV
  refine (Ck v (fun a0 a1 a2 => jI n a0 a1 a2) t _ (fun k hk t' a b c => ih k hk n t.Next t' (by have := qE hk; omega) a b c) (by omega) v.Kids [] n [] 0 t.Root (t.Next + 1) _ rfl rfl (by omega) (by simp; omega) (by omega) (by omega) (by simp; omega)).trans ?_
  simp only [List.nil_append]
  have hin : oE (t.Nodes.length : Int) (t.Nodes ++ [(aR.mk t.Next p v.Kind v.Key v.Attrs v.Actions ([] : List Int))] ++ kL (t.Next + 1) t.Next v.Kids).length = some t.Nodes.length := by
   unfold oE
   rw [if_pos ⟨by omega, by simp; omega⟩]
   simp
  rw [hin]
  simp only [Option.bind_some]
  rw [List.append_assoc, List.getElem?_append_right (Nat.le_refl _), Nat.sub_self]
  simp only [List.cons_append, List.nil_append, List.getElem?_cons_zero, Option.bind_some]
  rw [List.set_append_right _ _ (Nat.le_refl _), Nat.sub_self, List.set_cons_zero, mB, hsz]
  congr 1
  simp only [bC.mk.injEq, true_and]
  exact ⟨by omega, rfl⟩
end Go.Proofs.YtojkihhnioeggaaGreatDoor.S
