import Derived.Test.YtojkihhnioeggaaGreatDoorQEGM13
import Derived.Test.YtojkihhnioeggaaGreatDoorQEDr9
import Derived.WalkLawsBesides
import Derived.Deep.QuietTactic
import Derived.BigQuiet
import Derived.BigRegion
import Derived.Lib.Hide
import Derived.Deep.RegionWith
set_option linter.unusedSimpArgs false
set_option linter.all false
set_option linter.unusedVariables false
namespace Go.Proofs.YtojkihhnioeggaaGreatDoor.S
open Go Go.Bm
mutual
def eU : aN → Nat
 | ⟨_, _, _, _, kids⟩ => 1 + bY kids
def bY : List aN → Nat
 | [] => 0
 | v :: l => eU v + bY l
end
theorem jF (v : aN) : eU v = 1 + bY v.Kids := by cases v; rfl
theorem vU (v : aN) : 1 ≤ eU v := by rw [jF]; omega
theorem sT {k : aN} : ∀ {l : List aN}, k ∈ l → eU k ≤ bY l
 | [], h => nomatch h
 | v :: l, h => by
  rw [bY]
  rcases List.mem_cons.1 h with rfl | h
  ·omega
  ·have := sT h; omega
theorem kU {P : aN → Prop} (h : ∀ v, (∀ k, k ∈ v.Kids → P k) → P v) (v : aN) : P v := by
 have key : ∀ (m : Nat) (v : aN), eU v ≤ m → P v := by
  intro m
  induction m with
  | zero => intro v hv; have := vU v; omega
  | succ m ih =>
   intro v hv
   refine h v fun k hk => ih k ?_
   have := sT hk
   rw [jF] at hv
   omega
 exact key _ v (Nat.le_refl _)
mutual
def Cq : aN → Nat
 | ⟨_, _, at_, ac, kids⟩ => at_.length + ac.length + kids.length + 60 + Hm kids
def Hm : List aN → Nat
 | [] => 0
 | v :: l => Cq v + Hm l
end
theorem vX (v : aN) : Cq v = v.Attrs.length + v.Actions.length + v.Kids.length + 60 + Hm v.Kids := by cases v; rfl
theorem qU {k : aN} : ∀ {l : List aN}, k ∈ l → Cq k ≤ Hm l
 | [], h => nomatch h
 | v :: l, h => by
  rw [Hm]
  rcases List.mem_cons.1 h with rfl | h
  ·omega
  ·have := qU h; omega
def tV : Int → List aN → List Int
 | _, [] => []
 | i, v :: l => i :: tV (i + eU v) l
mutual
def yA : Int → Int → aN → List aU
 | i, p, ⟨k, key, at_, ac, kids⟩ => ⟨i, p, k, key, at_, ac, tV (i + 1) kids⟩ :: mI (i + 1) i kids
def mI : Int → Int → List aN → List aU
 | _, _, [] => []
 | i, p, v :: l => yA i p v ++ mI (i + eU v) p l
end
def hd (i p : Int) (v : aN) : aU := ⟨i, p, v.Kind, v.Key, v.Attrs, v.Actions, tV (i + 1) v.Kids⟩
theorem oE (i p : Int) (v : aN) : yA i p v = hd i p v :: mI (i + 1) i v.Kids := by cases v; rfl
theorem rN : ∀ (i : Int) (l : List aN), (tV i l).length = l.length
 | _, [] => rfl
 | i, v :: l => by simp [tV, rN]
theorem Ex : ∀ (l : List aN), (∀ k, k ∈ l → ∀ i p, (yA i p k).length = eU k) → ∀ i p, (mI i p l).length = bY l
 | [], _, _, _ => rfl
 | v :: l, h, i, p => by
  rw [mI, bY, List.length_append, h v (by simp), Ex l fun k hk => h k (by simp [hk])]
theorem Nb (v : aN) : ∀ i p, (yA i p v).length = eU v := by
 induction v using kU with
 | h v ih =>
  intro i p
  rw [oE, jF, List.length_cons, Ex v.Kids ih]
  omega
theorem Iv (v : aN) (self : aN → Int → bA → Option bA) (p2 : bA) (j : List Int → Int → Int → List aU → Option bA) (hs : ∀ k, k ∈ v.Kids → ∀ t : bA, 1 ≤ t.Next → t.Next + (eU k : Int) ≤ 2000000000000 → t.Nodes.length + eU k ≤ 1000 → self k p2.Next t = some ⟨t.Root, t.Next + eU k, t.Nodes ++ yA t.Next p2.Next k⟩) (hk : v.Kids.length ≤ 1000) :
  ∀ (l pre : List aN) (n : Nat) (a : List Int) (q r s : Int) (N : List aU), v.Kids = pre ++ l → q = pre.length → l.length < n → a.length + l.length ≤ 1000 → 1 ≤ s → s + bY l ≤ 2000000000000 → N.length + bY l ≤ 1000 →
   jC v self p2 j n a q r s N = j (a ++ tV s l) r (s + bY l) (N ++ mI s p2.Next l)
 | [], pre, n, a, q, r, s, N, hv, hq, hn, ha, h1, h2, h3 => by
  obtain ⟨n, rfl⟩ := nS n (by simp at hn; omega)
  have ab : v.Kids.length = pre.length := by rw [hv]; simp
  rw [jC, if_neg (by simp; omega)]
  simp [tV, mI, bY]
 | k :: l, pre, n, a, q, r, s, N, hv, hq, hn, ha, h1, h2, h3 => by
  obtain ⟨n, rfl⟩ := nS n (by simp at hn; omega)
  have ab : v.Kids.length = pre.length + (l.length + 1) := by rw [hv]; simp
  have hz := vU k
  rw [bY] at h2 h3
  rw [jC, if_pos (by simp; omega)]
  have hap : pA 8 a [s] = some (a ++ [s]) := by
   obtain ⟨b, hb, rfl⟩ := dK (b := 8) (l := a) (els := [s]) (by simp at ha ⊢; omega) (by decide)
   exact hb
  have hix : idx v.Kids q = some k := by
   unfold idx
   rw [if_pos (by omega), hq, Int.toNat_natCast, hv, List.getElem?_append_right (Nat.le_refl _), Nat.sub_self]
   rfl
  have hw : w6 (q + 1) = q + 1 := wS (by omega) (by omega)
  rw [hap, hix]
  simp only [oB]
  rw [hs k (by rw [hv]; simp) ⟨r, s, N⟩ h1 (by show s + _ ≤ _; omega) (by show N.length + _ ≤ _; omega)]
  simp only [oB, hw]
  rw [Iv v self p2 j hs hk l (pre ++ [k]) n (a ++ [s]) (q + 1) r (s + eU k) (N ++ yA s p2.Next k) (by rw [hv]; simp) (by simp; omega) (by simp at hn; omega) (by simp at ha ⊢; omega) (by omega) (by omega) (by rw [List.length_append, Nb]; omega)]
  rw [tV, mI, bY]
  simp only [List.append_assoc, List.cons_append, List.nil_append]
  congr 1
  omega
theorem Zw (v : aN) : ∀ (n : Nat) (p : Int) (t : bA), Cq v ≤ n → 1 ≤ t.Next → t.Next + eU v ≤ 2000000000000 → t.Nodes.length + eU v ≤ 1000 → lB n v p t = some ⟨t.Root, t.Next + eU v, t.Nodes ++ yA t.Next p v⟩ := by
 induction v using kU with
 | h v ih =>
  intro n p t hn h1 h2 h3
  have hfu := vX v
  have ah := jF v
  obtain ⟨n, rfl⟩ := nS n (by omega)
  have hkl : v.Kids.length ≤ bY v.Kids := by
   have : ∀ l : List aN, l.length ≤ bY l := by
    intro l
    induction l with
    | nil => simp [bY]
    | cons k l ih => rw [bY, List.length_cons]; have := vU k; omega
   exact this _
  rw [lB, nH]
  have hap : pA 112 t.Nodes [(aU.mk t.Next p v.Kind v.Key v.Attrs v.Actions ([] : List Int))] = some (t.Nodes ++ [(aU.mk t.Next p v.Kind v.Key v.Attrs v.Actions ([] : List Int))]) := by
   obtain ⟨b, hb, rfl⟩ := dK (b := 112) (l := t.Nodes) (els := [(aU.mk t.Next p v.Kind v.Key v.Attrs v.Actions ([] : List Int))]) (by simp; omega) (by decide)
   exact hb
  have hw : w6 (t.Next + 1) = t.Next + 1 := wS (by omega) (by omega)
  rw [hap]
  simp only [oB, hw]
  unfold aS
  refine (Iv v (fun a0 a1 a2 => lB n a0 a1 a2) t _ (fun k hk t' a b c => ih k hk n t.Next t' (by have := qU hk; omega) a b c) (by omega) v.Kids [] n [] 0 t.Root (t.Next + 1) _ rfl rfl (by omega) (by simp; omega) (by omega) (by omega) (by simp; omega)).trans ?_
  simp only [List.nil_append]
  have hin : rL (t.Nodes.length : Int) (t.Nodes ++ [(aU.mk t.Next p v.Kind v.Key v.Attrs v.Actions ([] : List Int))] ++ mI (t.Next + 1) t.Next v.Kids).length = some t.Nodes.length := by
   unfold rL
   rw [if_pos ⟨by omega, by simp; omega⟩]
   simp
  rw [hin]
  simp only [oB]
  rw [List.append_assoc, List.getElem?_append_right (Nat.le_refl _), Nat.sub_self]
  simp only [List.cons_append, List.nil_append, List.getElem?_cons_zero, oB]
  rw [List.set_append_right _ _ (Nat.le_refl _), Nat.sub_self, List.set_cons_zero, oE, ah]
  congr 1
  simp only [bA.mk.injEq, true_and]
  exact ⟨by omega, rfl⟩
end Go.Proofs.YtojkihhnioeggaaGreatDoor.S
