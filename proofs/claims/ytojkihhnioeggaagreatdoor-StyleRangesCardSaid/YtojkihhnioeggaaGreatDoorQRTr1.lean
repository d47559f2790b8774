import Derived.Test.YtojkihhnioeggaaGreatDoorQRGM13
import Derived.Test.YtojkihhnioeggaaGreatDoorQRDr9
import Derived.WalkKit
import Derived.WalkSpells
import Derived.WalkLawsBesides
import Derived.Deep.QuietTactic
import Derived.BigQuiet
import Derived.BigRegion
import Derived.Lib.Hide
import Derived.Deep.RegionWith
set_option linter.unusedSimpArgs false
set_option linter.unusedVariables false
set_option linter.unusedSimpArgs false
set_option linter.unusedVariables false
namespace Go.Proofs.YtojkihhnioeggaaGreatDoor.S
open Go Go.Bm
mutual
def gD : aG → Nat
 | ⟨_, _, _, _, kids⟩ => 1 + cA kids
def cA : List aG → Nat
 | [] => 0
 | v :: l => gD v + cA l
end
theorem lV (v : aG) : gD v = 1 + cA v.Kids := by cases v; rfl
theorem tJ (v : aG) : 1 ≤ gD v := by rw [lV]; omega
theorem sJ {k : aG} : ∀ {l : List aG}, k ∈ l → gD k ≤ cA l
 | [], h => nomatch h
 | v :: l, h => by
  rw [cA]
  rcases List.mem_cons.1 h with rfl | h
  ·omega
  ·have := sJ h; omega
theorem kD {P : aG → Prop} (h : ∀ v, (∀ k, k ∈ v.Kids → P k) → P v) (v : aG) : P v := by
 have key : ∀ (m : Nat) (v : aG), gD v ≤ m → P v := by
  intro m
  induction m with
  | zero => intro v hv; have := tJ v; omega
  | succ m ih =>
   intro v hv
   refine h v fun k hk => ih k ?_
   have := sJ hk
   rw [lV] at hv
   omega
 exact key _ v (Nat.le_refl _)
mutual
def Fy : aG → Nat
 | ⟨_, _, at_, ac, kids⟩ => at_.length + ac.length + kids.length + 60 + Lx kids
def Lx : List aG → Nat
 | [] => 0
 | v :: l => Fy v + Lx l
end
theorem xB (v : aG) : Fy v = v.Attrs.length + v.Actions.length + v.Kids.length + 60 + Lx v.Kids := by cases v; rfl
theorem qA {k : aG} : ∀ {l : List aG}, k ∈ l → Fy k ≤ Lx l
 | [], h => nomatch h
 | v :: l, h => by
  rw [Lx]
  rcases List.mem_cons.1 h with rfl | h
  ·omega
  ·have := qA h; omega
def rN : Int → List aG → List Int
 | _, [] => []
 | i, v :: l => i :: rN (i + gD v) l
mutual
def vK : Int → Int → aG → List aP
 | i, p, ⟨k, key, at_, ac, kids⟩ => ⟨i, p, k, key, at_, ac, rN (i + 1) kids⟩ :: kO (i + 1) i kids
def kO : Int → Int → List aG → List aP
 | _, _, [] => []
 | i, p, v :: l => vK i p v ++ kO (i + gD v) p l
end
def hd (i p : Int) (v : aG) : aP := ⟨i, p, v.Kind, v.Key, v.Attrs, v.Actions, rN (i + 1) v.Kids⟩
theorem mM (i p : Int) (v : aG) : vK i p v = hd i p v :: kO (i + 1) i v.Kids := by cases v; rfl
theorem pL : ∀ (i : Int) (l : List aG), (rN i l).length = l.length
 | _, [] => rfl
 | i, v :: l => by simp [rN, pL]
theorem Bl : ∀ (l : List aG), (∀ k, k ∈ l → ∀ i p, (vK i p k).length = gD k) → ∀ i p, (kO i p l).length = cA l
 | [], _, _, _ => rfl
 | v :: l, h, i, p => by
  rw [kO, cA, List.length_append, h v (by simp), Bl l fun k hk => h k (by simp [hk])]
theorem Ix (v : aG) : ∀ i p, (vK i p v).length = gD v := by
 induction v using kD with
 | h v ih =>
  intro i p
  rw [mM, lV, List.length_cons, Bl v.Kids ih]
  omega
theorem Es (v : aG) (self : aG → Int → bA → Option bA) (p2 : bA) (j : List Int → Int → Int → List aP → Option bA) (hs : ∀ k, k ∈ v.Kids → ∀ t : bA, 1 ≤ t.Next → t.Next + (gD k : Int) ≤ 2000000000000 → t.Nodes.length + gD k ≤ 1000 → self k p2.Next t = some ⟨t.Root, t.Next + gD k, t.Nodes ++ vK t.Next p2.Next k⟩) (hk : v.Kids.length ≤ 1000) :
  ∀ (l pre : List aG) (n : Nat) (a : List Int) (q r s : Int) (N : List aP), v.Kids = pre ++ l → q = pre.length → l.length < n → a.length + l.length ≤ 1000 → 1 ≤ s → s + cA l ≤ 2000000000000 → N.length + cA l ≤ 1000 →
   hO v self p2 j n a q r s N = j (a ++ rN s l) r (s + cA l) (N ++ kO s p2.Next l)
 | [], pre, n, a, q, r, s, N, hv, hq, hn, ha, h1, h2, h3 => by
  obtain ⟨n, rfl⟩ : ∃ m, n = m + 1 := ⟨n - 1, by simp at hn; omega⟩
  have hlen : v.Kids.length = pre.length := by rw [hv]; simp
  rw [hO, if_neg (by simp; omega)]
  simp [rN, kO, cA]
 | k :: l, pre, n, a, q, r, s, N, hv, hq, hn, ha, h1, h2, h3 => by
  obtain ⟨n, rfl⟩ : ∃ m, n = m + 1 := ⟨n - 1, by simp at hn; omega⟩
  have hlen : v.Kids.length = pre.length + (l.length + 1) := by rw [hv]; simp
  have hz := tJ k
  rw [cA] at h2 h3
  rw [hO, if_pos (by simp; omega)]
  have hap : pE 8 a [s] = some (a ++ [s]) := by
   obtain ⟨b, hb, rfl⟩ := dT (b := 8) (l := a) (els := [s]) (by simp at ha ⊢; omega) (by decide)
   exact hb
  have hix : idx v.Kids q = some k := by
   unfold idx
   rw [if_pos (by omega), hq, Int.toNat_natCast, hv, List.getElem?_append_right (Nat.le_refl _), Nat.sub_self]
   rfl
  have hw : IntKind.wrap .i64 (q + 1) = q + 1 := Go.Bm.aS (by omega) (by omega)
  rw [hap, hix]
  simp only [Option.bind_some]
  rw [hs k (by rw [hv]; simp) ⟨r, s, N⟩ h1 (by show s + _ ≤ _; omega) (by show N.length + _ ≤ _; omega)]
  simp only [Option.bind_some, hw]
  rw [Es v self p2 j hs hk l (pre ++ [k]) n (a ++ [s]) (q + 1) r (s + gD k) (N ++ vK s p2.Next k) (by rw [hv]; simp) (by simp; omega) (by simp at hn; omega) (by simp at ha ⊢; omega) (by omega) (by omega) (by rw [List.length_append, Ix]; omega)]
  rw [rN, kO, cA]
  simp only [List.append_assoc, List.cons_append, List.nil_append]
  congr 1
  omega
theorem Vh (v : aG) : ∀ (n : Nat) (p : Int) (t : bA), Fy v ≤ n → 1 ≤ t.Next → t.Next + gD v ≤ 2000000000000 → t.Nodes.length + gD v ≤ 1000 → jJ n v p t = some ⟨t.Root, t.Next + gD v, t.Nodes ++ vK t.Next p v⟩ := by
 induction v using kD with
 | h v ih =>
  intro n p t hn h1 h2 h3
  have hfu := xB v
  have hsz := lV v
  obtain ⟨n, rfl⟩ : ∃ m, n = m + 1 := ⟨n - 1, by omega⟩
  have hkl : v.Kids.length ≤ cA v.Kids := by
   have : ∀ l : List aG, l.length ≤ cA l := by
    intro l
    induction l with
    | nil => simp [cA]
    | cons k l ih => rw [cA, List.length_cons]; have := tJ k; omega
   exact this _
  rw [jJ, lO]
  have hap : pE 112 t.Nodes [(aP.mk t.Next p v.Kind v.Key v.Attrs v.Actions ([] : List Int))] = some (t.Nodes ++ [(aP.mk t.Next p v.Kind v.Key v.Attrs v.Actions ([] : List Int))]) := by
   obtain ⟨b, hb, rfl⟩ := dT (b := 112) (l := t.Nodes) (els := [(aP.mk t.Next p v.Kind v.Key v.Attrs v.Actions ([] : List Int))]) (by simp; omega) (by decide)
   exact hb
  have hw : IntKind.wrap .i64 (t.Next + 1) = t.Next + 1 := Go.Bm.aS (by omega) (by omega)
  rw [hap]
  simp only [Option.bind_some, hw]
  unfold aR
  refine (Es v (fun a0 a1 a2 => jJ n a0 a1 a2) t _ (fun k hk t' a b c => ih k hk n t.Next t' (by have := qA hk; omega) a b c) (by omega) v.Kids [] n [] 0 t.Root (t.Next + 1) _ rfl rfl (by omega) (by simp; omega) (by omega) (by omega) (by simp; omega)).trans ?_
  simp only [List.nil_append]
  have hin : uC (t.Nodes.length : Int) (t.Nodes ++ [(aP.mk t.Next p v.Kind v.Key v.Attrs v.Actions ([] : List Int))] ++ kO (t.Next + 1) t.Next v.Kids).length = some t.Nodes.length := by
   unfold uC
   rw [if_pos ⟨by omega, by simp; omega⟩]
   simp
  rw [hin]
  simp only [Option.bind_some]
  rw [List.append_assoc, List.getElem?_append_right (Nat.le_refl _), Nat.sub_self]
  simp only [List.cons_append, List.nil_append, List.getElem?_cons_zero, Option.bind_some]
  rw [List.set_append_right _ _ (Nat.le_refl _), Nat.sub_self, List.set_cons_zero, mM, hsz]
  congr 1
  simp only [bA.mk.injEq, true_and]
  exact ⟨by omega, rfl⟩
end Go.Proofs.YtojkihhnioeggaaGreatDoor.S
