import Derived.Test.YtojkihhnioeggaaGreatDoorQUGM13
import Derived.Test.YtojkihhnioeggaaGreatDoorQUDr9
import Derived.WalkKit
import Derived.WalkSpells
import Derived.WalkLawsBesides
import Derived.Deep.QuietTactic
import Derived.BigQuiet
import Derived.BigRegion
import Derived.Lib.Hide
import Derived.Deep.RegionWith
set_option linter.unusedSimpArgs false
set_option linter.unusedVariables false
set_option linter.unusedSimpArgs false
set_option linter.unusedVariables false
namespace Go.Proofs.YtojkihhnioeggaaGreatDoor.S
open Go Go.Bm
mutual
def fW : aJ → Nat
 | ⟨_, _, _, _, kids⟩ => 1 + cI kids
def cI : List aJ → Nat
 | [] => 0
 | v :: l => fW v + cI l
end
theorem lZ (v : aJ) : fW v = 1 + cI v.Kids := by cases v; rfl
theorem tY (v : aJ) : 1 ≤ fW v := by rw [lZ]; omega
theorem sR {k : aJ} : ∀ {l : List aJ}, k ∈ l → fW k ≤ cI l
 | [], h => nomatch h
 | v :: l, h => by
  rw [cI]
  rcases List.mem_cons.1 h with rfl | h
  ·omega
  ·have := sR h; omega
theorem kL {P : aJ → Prop} (h : ∀ v, (∀ k, k ∈ v.Kids → P k) → P v) (v : aJ) : P v := by
 have key : ∀ (m : Nat) (v : aJ), fW v ≤ m → P v := by
  intro m
  induction m with
  | zero => intro v hv; have := tY v; omega
  | succ m ih =>
   intro v hv
   refine h v fun k hk => ih k ?_
   have := sR hk
   rw [lZ] at hv
   omega
 exact key _ v (Nat.le_refl _)
mutual
def Bn : aJ → Nat
 | ⟨_, _, at_, ac, kids⟩ => at_.length + ac.length + kids.length + 60 + Mo kids
def Mo : List aJ → Nat
 | [] => 0
 | v :: l => Bn v + Mo l
end
theorem xT (v : aJ) : Bn v = v.Attrs.length + v.Actions.length + v.Kids.length + 60 + Mo v.Kids := by cases v; rfl
theorem qG {k : aJ} : ∀ {l : List aJ}, k ∈ l → Bn k ≤ Mo l
 | [], h => nomatch h
 | v :: l, h => by
  rw [Mo]
  rcases List.mem_cons.1 h with rfl | h
  ·omega
  ·have := qG h; omega
def rV : Int → List aJ → List Int
 | _, [] => []
 | i, v :: l => i :: rV (i + fW v) l
mutual
def vX : Int → Int → aJ → List aP
 | i, p, ⟨k, key, at_, ac, kids⟩ => ⟨i, p, k, key, at_, ac, rV (i + 1) kids⟩ :: kT (i + 1) i kids
def kT : Int → Int → List aJ → List aP
 | _, _, [] => []
 | i, p, v :: l => vX i p v ++ kT (i + fW v) p l
end
def hd (i p : Int) (v : aJ) : aP := ⟨i, p, v.Kind, v.Key, v.Attrs, v.Actions, rV (i + 1) v.Kids⟩
theorem mR (i p : Int) (v : aJ) : vX i p v = hd i p v :: kT (i + 1) i v.Kids := by cases v; rfl
theorem pR : ∀ (i : Int) (l : List aJ), (rV i l).length = l.length
 | _, [] => rfl
 | i, v :: l => by simp [rV, pR]
theorem Cf : ∀ (l : List aJ), (∀ k, k ∈ l → ∀ i p, (vX i p k).length = fW k) → ∀ i p, (kT i p l).length = cI l
 | [], _, _, _ => rfl
 | v :: l, h, i, p => by
  rw [kT, cI, List.length_append, h v (by simp), Cf l fun k hk => h k (by simp [hk])]
theorem Ju (v : aJ) : ∀ i p, (vX i p v).length = fW v := by
 induction v using kL with
 | h v ih =>
  intro i p
  rw [mR, lZ, List.length_cons, Cf v.Kids ih]
  omega
theorem Fl (v : aJ) (self : aJ → Int → bA → Option bA) (p2 : bA) (j : List Int → Int → Int → List aP → Option bA) (hs : ∀ k, k ∈ v.Kids → ∀ t : bA, 1 ≤ t.Next → t.Next + (fW k : Int) ≤ 2000000000000 → t.Nodes.length + fW k ≤ 1000 → self k p2.Next t = some ⟨t.Root, t.Next + fW k, t.Nodes ++ vX t.Next p2.Next k⟩) (hk : v.Kids.length ≤ 1000) :
  ∀ (l pre : List aJ) (n : Nat) (a : List Int) (q r s : Int) (N : List aP), v.Kids = pre ++ l → q = pre.length → l.length < n → a.length + l.length ≤ 1000 → 1 ≤ s → s + cI l ≤ 2000000000000 → N.length + cI l ≤ 1000 →
   iD v self p2 j n a q r s N = j (a ++ rV s l) r (s + cI l) (N ++ kT s p2.Next l)
 | [], pre, n, a, q, r, s, N, hv, hq, hn, ha, h1, h2, h3 => by
  obtain ⟨n, rfl⟩ : ∃ m, n = m + 1 := ⟨n - 1, by simp at hn; omega⟩
  have hlen : v.Kids.length = pre.length := by rw [hv]; simp
  rw [iD, if_neg (by simp; omega)]
  simp [rV, kT, cI]
 | k :: l, pre, n, a, q, r, s, N, hv, hq, hn, ha, h1, h2, h3 => by
  obtain ⟨n, rfl⟩ : ∃ m, n = m + 1 := ⟨n - 1, by simp at hn; omega⟩
  have hlen : v.Kids.length = pre.length + (l.length + 1) := by rw [hv]; simp
  have hz := tY k
  rw [cI] at h2 h3
  rw [iD, if_pos (by simp; omega)]
  have hap : pD 8 a [s] = some (a ++ [s]) := by
   obtain ⟨b, hb, rfl⟩ := dV (b := 8) (l := a) (els := [s]) (by simp at ha ⊢; omega) (by decide)
   exact hb
  have hix : idx v.Kids q = some k := by
   unfold idx
   rw [if_pos (by omega), hq, Int.toNat_natCast, hv, List.getElem?_append_right (Nat.le_refl _), Nat.sub_self]
   rfl
  have hw : IntKind.wrap .i64 (q + 1) = q + 1 := Go.Bm.aT (by omega) (by omega)
  rw [hap, hix]
  simp only [Option.bind_some]
  rw [hs k (by rw [hv]; simp) ⟨r, s, N⟩ h1 (by show s + _ ≤ _; omega) (by show N.length + _ ≤ _; omega)]
  simp only [Option.bind_some, hw]
  rw [Fl v self p2 j hs hk l (pre ++ [k]) n (a ++ [s]) (q + 1) r (s + fW k) (N ++ vX s p2.Next k) (by rw [hv]; simp) (by simp; omega) (by simp at hn; omega) (by simp at ha ⊢; omega) (by omega) (by omega) (by rw [List.length_append, Ju]; omega)]
  rw [rV, kT, cI]
  simp only [List.append_assoc, List.cons_append, List.nil_append]
  congr 1
  omega
theorem Wh (v : aJ) : ∀ (n : Nat) (p : Int) (t : bA), Bn v ≤ n → 1 ≤ t.Next → t.Next + fW v ≤ 2000000000000 → t.Nodes.length + fW v ≤ 1000 → jP n v p t = some ⟨t.Root, t.Next + fW v, t.Nodes ++ vX t.Next p v⟩ := by
 induction v using kL with
 | h v ih =>
  intro n p t hn h1 h2 h3
  have hfu := xT v
  have hsz := lZ v
  obtain ⟨n, rfl⟩ : ∃ m, n = m + 1 := ⟨n - 1, by omega⟩
  have hkl : v.Kids.length ≤ cI v.Kids := by
   have : ∀ l : List aJ, l.length ≤ cI l := by
    intro l
    induction l with
    | nil => simp [cI]
    | cons k l ih => rw [cI, List.length_cons]; have := tY k; omega
   exact this _
  rw [jP, lS]
  have hap : pD 112 t.Nodes [(aP.mk t.Next p v.Kind v.Key v.Attrs v.Actions ([] : List Int))] = some (t.Nodes ++ [(aP.mk t.Next p v.Kind v.Key v.Attrs v.Actions ([] : List Int))]) := by
   obtain ⟨b, hb, rfl⟩ := dV (b := 112) (l := t.Nodes) (els := [(aP.mk t.Next p v.Kind v.Key v.Attrs v.Actions ([] : List Int))]) (by simp; omega) (by decide)
   exact hb
  have hw : IntKind.wrap .i64 (t.Next + 1) = t.Next + 1 := Go.Bm.aT (by omega) (by omega)
  rw [hap]
  simp only [Option.bind_some, hw]
  unfold aS
  refine (Fl v (fun a0 a1 a2 => jP n a0 a1 a2) t _ (fun k hk t' a b c => ih k hk n t.Next t' (by have := qG hk; omega) a b c) (by omega) v.Kids [] n [] 0 t.Root (t.Next + 1) _ rfl rfl (by omega) (by simp; omega) (by omega) (by omega) (by simp; omega)).trans ?_
  simp only [List.nil_append]
  have hin : uQ (t.Nodes.length : Int) (t.Nodes ++ [(aP.mk t.Next p v.Kind v.Key v.Attrs v.Actions ([] : List Int))] ++ kT (t.Next + 1) t.Next v.Kids).length = some t.Nodes.length := by
   unfold uQ
   rw [if_pos ⟨by omega, by simp; omega⟩]
   simp
  rw [hin]
  simp only [Option.bind_some]
  rw [List.append_assoc, List.getElem?_append_right (Nat.le_refl _), Nat.sub_self]
  simp only [List.cons_append, List.nil_append, List.getElem?_cons_zero, Option.bind_some]
  rw [List.set_append_right _ _ (Nat.le_refl _), Nat.sub_self, List.set_cons_zero, mR, hsz]
  congr 1
  simp only [bA.mk.injEq, true_and]
  exact ⟨by omega, rfl⟩
end Go.Proofs.YtojkihhnioeggaaGreatDoor.S
