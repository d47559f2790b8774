import Derived.Test.YtojkihhnioeggaaGreatDoorQCGM13
import Derived.Test.YtojkihhnioeggaaGreatDoorQCDr9
import Derived.WalkKit
import Derived.WalkSpells
import Derived.WalkLawsBesides
import Derived.Deep.QuietTactic
import Derived.BigQuiet
import Derived.BigRegion
import Derived.Lib.Hide
import Derived.Deep.RegionWith
set_option linter.unusedSimpArgs false
set_option linter.unusedVariables false
set_option linter.unusedSimpArgs false
set_option linter.unusedVariables false
namespace Go.Proofs.YtojkihhnioeggaaGreatDoor.S
open Go Go.Bm
mutual
def gR : aL → Nat
 | ⟨_, _, _, _, kids⟩ => 1 + cI kids
def cI : List aL → Nat
 | [] => 0
 | v :: l => gR v + cI l
end
theorem mP (v : aL) : gR v = 1 + cI v.Kids := by cases v; rfl
theorem tY (v : aL) : 1 ≤ gR v := by rw [mP]; omega
theorem sV {k : aL} : ∀ {l : List aL}, k ∈ l → gR k ≤ cI l
 | [], h => nomatch h
 | v :: l, h => by
  rw [cI]
  rcases List.mem_cons.1 h with rfl | h
  ·omega
  ·have := sV h; omega
theorem kW {P : aL → Prop} (h : ∀ v, (∀ k, k ∈ v.Kids → P k) → P v) (v : aL) : P v := by
 have key : ∀ (m : Nat) (v : aL), gR v ≤ m → P v := by
  intro m
  induction m with
  | zero => intro v hv; have := tY v; omega
  | succ m ih =>
   intro v hv
   refine h v fun k hk => ih k ?_
   have := sV hk
   rw [mP] at hv
   omega
 exact key _ v (Nat.le_refl _)
mutual
def Hh : aL → Nat
 | ⟨_, _, at_, ac, kids⟩ => at_.length + ac.length + kids.length + 60 + Ni kids
def Ni : List aL → Nat
 | [] => 0
 | v :: l => Hh v + Ni l
end
theorem xY (v : aL) : Hh v = v.Attrs.length + v.Actions.length + v.Kids.length + 60 + Ni v.Kids := by cases v; rfl
theorem qS {k : aL} : ∀ {l : List aL}, k ∈ l → Hh k ≤ Ni l
 | [], h => nomatch h
 | v :: l, h => by
  rw [Ni]
  rcases List.mem_cons.1 h with rfl | h
  ·omega
  ·have := qS h; omega
def rY : Int → List aL → List Int
 | _, [] => []
 | i, v :: l => i :: rY (i + gR v) l
mutual
def wE : Int → Int → aL → List aR
 | i, p, ⟨k, key, at_, ac, kids⟩ => ⟨i, p, k, key, at_, ac, rY (i + 1) kids⟩ :: lH (i + 1) i kids
def lH : Int → Int → List aL → List aR
 | _, _, [] => []
 | i, p, v :: l => wE i p v ++ lH (i + gR v) p l
end
def hd (i p : Int) (v : aL) : aR := ⟨i, p, v.Kind, v.Key, v.Attrs, v.Actions, rY (i + 1) v.Kids⟩
theorem nC (i p : Int) (v : aL) : wE i p v = hd i p v :: lH (i + 1) i v.Kids := by cases v; rfl
theorem qA : ∀ (i : Int) (l : List aL), (rY i l).length = l.length
 | _, [] => rfl
 | i, v :: l => by simp [rY, qA]
theorem Cr : ∀ (l : List aL), (∀ k, k ∈ l → ∀ i p, (wE i p k).length = gR k) → ∀ i p, (lH i p l).length = cI l
 | [], _, _, _ => rfl
 | v :: l, h, i, p => by
  rw [lH, cI, List.length_append, h v (by simp), Cr l fun k hk => h k (by simp [hk])]
theorem Ki (v : aL) : ∀ i p, (wE i p v).length = gR v := by
 induction v using kW with
 | h v ih =>
  intro i p
  rw [nC, mP, List.length_cons, Cr v.Kids ih]
  omega
theorem Gd (v : aL) (self : aL → Int → bB → Option bB) (p2 : bB) (j : List Int → Int → Int → List aR → Option bB) (hs : ∀ k, k ∈ v.Kids → ∀ t : bB, 1 ≤ t.Next → t.Next + (gR k : Int) ≤ 2000000000000 → t.Nodes.length + gR k ≤ 1000 → self k p2.Next t = some ⟨t.Root, t.Next + gR k, t.Nodes ++ wE t.Next p2.Next k⟩) (hk : v.Kids.length ≤ 1000) :
  ∀ (l pre : List aL) (n : Nat) (a : List Int) (q r s : Int) (N : List aR), v.Kids = pre ++ l → q = pre.length → l.length < n → a.length + l.length ≤ 1000 → 1 ≤ s → s + cI l ≤ 2000000000000 → N.length + cI l ≤ 1000 →
   iL v self p2 j n a q r s N = j (a ++ rY s l) r (s + cI l) (N ++ lH s p2.Next l)
 | [], pre, n, a, q, r, s, N, hv, hq, hn, ha, h1, h2, h3 => by
  obtain ⟨n, rfl⟩ : ∃ m, n = m + 1 := ⟨n - 1, by simp at hn; omega⟩
  have hlen : v.Kids.length = pre.length := by rw [hv]; simp
  rw [iL, if_neg (by simp; omega)]
  simp [rY, lH, cI]
 | k :: l, pre, n, a, q, r, s, N, hv, hq, hn, ha, h1, h2, h3 => by
  obtain ⟨n, rfl⟩ : ∃ m, n = m + 1 := ⟨n - 1, by simp at hn; omega⟩
  have hlen : v.Kids.length = pre.length + (l.length + 1) := by rw [hv]; simp
  have hz := tY k
  rw [cI] at h2 h3
  rw [iL, if_pos (by simp; omega)]
  have hap : pV 8 a [s] = some (a ++ [s]) := by
   obtain ⟨b, hb, rfl⟩ := dU (b := 8) (l := a) (els := [s]) (by simp at ha ⊢; omega) (by decide)
   exact hb
  have hix : idx v.Kids q = some k := by
   unfold idx
   rw [if_pos (by omega), hq, Int.toNat_natCast, hv, List.getElem?_append_right (Nat.le_refl _), Nat.sub_self]
   rfl
  have hw : IntKind.wrap .i64 (q + 1) = q + 1 := Go.Bm.aU (by omega) (by omega)
  rw [hap, hix]
  simp only [Option.bind_some]
  rw [hs k (by rw [hv]; simp) ⟨r, s, N⟩ h1 (by show s + _ ≤ _; omega) (by show N.length + _ ≤ _; omega)]
  simp only [Option.bind_some, hw]
  rw [Gd v self p2 j hs hk l (pre ++ [k]) n (a ++ [s]) (q + 1) r (s + gR k) (N ++ wE s p2.Next k) (by rw [hv]; simp) (by simp; omega) (by simp at hn; omega) (by simp at ha ⊢; omega) (by omega) (by omega) (by rw [List.length_append, Ki]; omega)]
  rw [rY, lH, cI]
  simp only [List.append_assoc, List.cons_append, List.nil_append]
  congr 1
  omega
theorem Wt (v : aL) : ∀ (n : Nat) (p : Int) (t : bB), Hh v ≤ n → 1 ≤ t.Next → t.Next + gR v ≤ 2000000000000 → t.Nodes.length + gR v ≤ 1000 → kD n v p t = some ⟨t.Root, t.Next + gR v, t.Nodes ++ wE t.Next p v⟩ := by
 induction v using kW with
 | h v ih =>
  intro n p t hn h1 h2 h3
  have hfu := xY v
  have hsz := mP v
  obtain ⟨n, rfl⟩ : ∃ m, n = m + 1 := ⟨n - 1, by omega⟩
  have hkl : v.Kids.length ≤ cI v.Kids := by
   have : ∀ l : List aL, l.length ≤ cI l := by
    intro l
    induction l with
    | nil => simp [cI]
    | cons k l ih => rw [cI, List.length_cons]; have := tY k; omega
   exact this _
  rw [kD, mF]
  have hap : pV 112 t.Nodes [(aR.mk t.Next p v.Kind v.Key v.Attrs v.Actions ([] : List Int))] = some (t.Nodes ++ [(aR.mk t.Next p v.Kind v.Key v.Attrs v.Actions ([] : List Int))]) := by
   obtain ⟨b, hb, rfl⟩ := dU (b := 112) (l := t.Nodes) (els := [(aR.mk t.Next p v.Kind v.Key v.Attrs v.Actions ([] : List Int))]) (by simp; omega) (by decide)
   exact hb
  have hw : IntKind.wrap .i64 (t.Next + 1) = t.Next + 1 := Go.Bm.aU (by omega) (by omega)
  rw [hap]
  simp only [Option.bind_some, hw]
  unfold aS
  refine (Gd v (fun a0 a1 a2 => kD n a0 a1 a2) t _ (fun k hk t' a b c => ih k hk n t.Next t' (by have := qS hk; omega) a b c) (by omega) v.Kids [] n [] 0 t.Root (t.Next + 1) _ rfl rfl (by omega) (by simp; omega) (by omega) (by omega) (by simp; omega)).trans ?_
  simp only [List.nil_append]
  have hin : uU (t.Nodes.length : Int) (t.Nodes ++ [(aR.mk t.Next p v.Kind v.Key v.Attrs v.Actions ([] : List Int))] ++ lH (t.Next + 1) t.Next v.Kids).length = some t.Nodes.length := by
   unfold uU
   rw [if_pos ⟨by omega, by simp; omega⟩]
   simp
  rw [hin]
  simp only [Option.bind_some]
  rw [List.append_assoc, List.getElem?_append_right (Nat.le_refl _), Nat.sub_self]
  simp only [List.cons_append, List.nil_append, List.getElem?_cons_zero, Option.bind_some]
  rw [List.set_append_right _ _ (Nat.le_refl _), Nat.sub_self, List.set_cons_zero, nC, hsz]
  congr 1
  simp only [bB.mk.injEq, true_and]
  exact ⟨by omega, rfl⟩
end Go.Proofs.YtojkihhnioeggaaGreatDoor.S
