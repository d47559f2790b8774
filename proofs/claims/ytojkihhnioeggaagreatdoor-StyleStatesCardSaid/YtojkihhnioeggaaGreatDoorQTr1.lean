import Derived.Test.YtojkihhnioeggaaGreatDoorQGJ11
import Derived.Test.YtojkihhnioeggaaGreatDoorQDr9
import Derived.WalkKit
import Derived.WalkSpells
import Derived.WalkLawsBesides
import Derived.Deep.QuietTactic
import Derived.BigQuiet
import Derived.BigRegion
import Derived.Lib.Hide
import Derived.Deep.RegionWith
set_option linter.unusedSimpArgs false
set_option linter.unusedVariables false
set_option linter.unusedSimpArgs false
set_option linter.unusedVariables false
namespace Go.Proofs.YtojkihhnioeggaaGreatDoor.S
open Go Go.Bm
mutual
def gM : aK → Nat
 | ⟨_, _, _, _, kids⟩ => 1 + bR kids
def bR : List aK → Nat
 | [] => 0
 | v :: l => gM v + bR l
end
theorem kX (v : aK) : gM v = 1 + bR v.Kids := by cases v; rfl
theorem rM (v : aK) : 1 ≤ gM v := by rw [kX]; omega
theorem qL {k : aK} : ∀ {l : List aK}, k ∈ l → gM k ≤ bR l
 | [], h => nomatch h
 | v :: l, h => by
  rw [bR]
  rcases List.mem_cons.1 h with rfl | h
  ·omega
  ·have := qL h; omega
theorem jJ {P : aK → Prop} (h : ∀ v, (∀ k, k ∈ v.Kids → P k) → P v) (v : aK) : P v := by
 have key : ∀ (m : Nat) (v : aK), gM v ≤ m → P v := by
  intro m
  induction m with
  | zero => intro v hv; have := rM v; omega
  | succ m ih =>
   intro v hv
   refine h v fun k hk => ih k ?_
   have := qL hk
   rw [kX] at hv
   omega
 exact key _ v (Nat.le_refl _)
mutual
def Hh : aK → Nat
 | ⟨_, _, at_, ac, kids⟩ => at_.length + ac.length + kids.length + 60 + Ib kids
def Ib : List aK → Nat
 | [] => 0
 | v :: l => Hh v + Ib l
end
theorem wC (v : aK) : Hh v = v.Attrs.length + v.Actions.length + v.Kids.length + 60 + Ib v.Kids := by cases v; rfl
theorem pA {k : aK} : ∀ {l : List aK}, k ∈ l → Hh k ≤ Ib l
 | [], h => nomatch h
 | v :: l, h => by
  rw [Ib]
  rcases List.mem_cons.1 h with rfl | h
  ·omega
  ·have := pA h; omega
def qG : Int → List aK → List Int
 | _, [] => []
 | i, v :: l => i :: qG (i + gM v) l
mutual
def sY : Int → Int → aK → List aR
 | i, p, ⟨k, key, at_, ac, kids⟩ => ⟨i, p, k, key, at_, ac, qG (i + 1) kids⟩ :: jX (i + 1) i kids
def jX : Int → Int → List aK → List aR
 | _, _, [] => []
 | i, p, v :: l => sY i p v ++ jX (i + gM v) p l
end
def hd (i p : Int) (v : aK) : aR := ⟨i, p, v.Kind, v.Key, v.Attrs, v.Actions, qG (i + 1) v.Kids⟩
theorem lJ (i p : Int) (v : aK) : sY i p v = hd i p v :: jX (i + 1) i v.Kids := by cases v; rfl
theorem nW : ∀ (i : Int) (l : List aK), (qG i l).length = l.length
 | _, [] => rfl
 | i, v :: l => by simp [qG, nW]
theorem zB : ∀ (l : List aK), (∀ k, k ∈ l → ∀ i p, (sY i p k).length = gM k) → ∀ i p, (jX i p l).length = bR l
 | [], _, _, _ => rfl
 | v :: l, h, i, p => by
  rw [jX, bR, List.length_append, h v (by simp), zB l fun k hk => h k (by simp [hk])]
theorem Fu (v : aK) : ∀ i p, (sY i p v).length = gM v := by
 induction v using jJ with
 | h v ih =>
  intro i p
  rw [lJ, kX, List.length_cons, zB v.Kids ih]
  omega
theorem Cy (v : aK) (self : aK → Int → bD → Option bD) (p2 : bD) (j : List Int → Int → Int → List aR → Option bD) (hs : ∀ k, k ∈ v.Kids → ∀ t : bD, 1 ≤ t.Next → t.Next + (gM k : Int) ≤ 2000000000000 → t.Nodes.length + gM k ≤ 1000 → self k p2.Next t = some ⟨t.Root, t.Next + gM k, t.Nodes ++ sY t.Next p2.Next k⟩) (hk : v.Kids.length ≤ 1000) :
  ∀ (l pre : List aK) (n : Nat) (a : List Int) (q r s : Int) (N : List aR), v.Kids = pre ++ l → q = pre.length → l.length < n → a.length + l.length ≤ 1000 → 1 ≤ s → s + bR l ≤ 2000000000000 → N.length + bR l ≤ 1000 →
   gV v self p2 j n a q r s N = j (a ++ qG s l) r (s + bR l) (N ++ jX s p2.Next l)
 | [], pre, n, a, q, r, s, N, hv, hq, hn, ha, h1, h2, h3 => by
  obtain ⟨n, rfl⟩ : ∃ m, n = m + 1 := ⟨n - 1, by simp at hn; omega⟩
  have hlen : v.Kids.length = pre.length := by rw [hv]; simp
  rw [gV, if_neg (by simp; omega)]
  simp [qG, jX, bR]
 | k :: l, pre, n, a, q, r, s, N, hv, hq, hn, ha, h1, h2, h3 => by
  obtain ⟨n, rfl⟩ : ∃ m, n = m + 1 := ⟨n - 1, by simp at hn; omega⟩
  have hlen : v.Kids.length = pre.length + (l.length + 1) := by rw [hv]; simp
  have hz := rM k
  rw [bR] at h2 h3
  rw [gV, if_pos (by simp; omega)]
  have hap : oK 8 a [s] = some (a ++ [s]) := by
   obtain ⟨b, hb, rfl⟩ := eU (b := 8) (l := a) (els := [s]) (by simp at ha ⊢; omega) (by decide)
   exact hb
  have hix : idx v.Kids q = some k := by
   unfold idx
   rw [if_pos (by omega), hq, Int.toNat_natCast, hv, List.getElem?_append_right (Nat.le_refl _), Nat.sub_self]
   rfl
  have hw : IntKind.wrap .i64 (q + 1) = q + 1 := Go.Bm.bB (by omega) (by omega)
  rw [hap, hix]
  simp only [Option.bind_some]
  rw [hs k (by rw [hv]; simp) ⟨r, s, N⟩ h1 (by show s + _ ≤ _; omega) (by show N.length + _ ≤ _; omega)]
  simp only [Option.bind_some, hw]
  rw [Cy v self p2 j hs hk l (pre ++ [k]) n (a ++ [s]) (q + 1) r (s + gM k) (N ++ sY s p2.Next k) (by rw [hv]; simp) (by simp; omega) (by simp at hn; omega) (by simp at ha ⊢; omega) (by omega) (by omega) (by rw [List.length_append, Fu]; omega)]
  rw [qG, jX, bR]
  simp only [List.append_assoc, List.cons_append, List.nil_append]
  congr 1
  omega
theorem Pk (v : aK) : ∀ (n : Nat) (p : Int) (t : bD), Hh v ≤ n → 1 ≤ t.Next → t.Next + gM v ≤ 2000000000000 → t.Nodes.length + gM v ≤ 1000 → iV n v p t = some ⟨t.Root, t.Next + gM v, t.Nodes ++ sY t.Next p v⟩ := by
 induction v using jJ with
 | h v ih =>
  intro n p t hn h1 h2 h3
  have hfu := wC v
  have hsz := kX v
  obtain ⟨n, rfl⟩ : ∃ m, n = m + 1 := ⟨n - 1, by omega⟩
  have hkl : v.Kids.length ≤ bR v.Kids := by
   have : ∀ l : List aK, l.length ≤ bR l := by
    intro l
    induction l with
    | nil => simp [bR]
    | cons k l ih => rw [bR, List.length_cons]; have := rM k; omega
   exact this _
  rw [iV, kS]
  have hap : oK 112 t.Nodes [(aR.mk t.Next p v.Kind v.Key v.Attrs v.Actions ([] : List Int))] = some (t.Nodes ++ [(aR.mk t.Next p v.Kind v.Key v.Attrs v.Actions ([] : List Int))]) := by
   obtain ⟨b, hb, rfl⟩ := eU (b := 112) (l := t.Nodes) (els := [(aR.mk t.Next p v.Kind v.Key v.Attrs v.Actions ([] : List Int))]) (by simp; omega) (by decide)
   exact hb
  have hw : IntKind.wrap .i64 (t.Next + 1) = t.Next + 1 := Go.Bm.bB (by omega) (by omega)
  rw [hap]
  simp only [Option.bind_some, hw]
  unfold aX
  refine (Cy v (fun a0 a1 a2 => iV n a0 a1 a2) t _ (fun k hk t' a b c => ih k hk n t.Next t' (by have := pA hk; omega) a b c) (by omega) v.Kids [] n [] 0 t.Root (t.Next + 1) _ rfl rfl (by omega) (by simp; omega) (by omega) (by omega) (by simp; omega)).trans ?_
  simp only [List.nil_append]
  have hin : pN (t.Nodes.length : Int) (t.Nodes ++ [(aR.mk t.Next p v.Kind v.Key v.Attrs v.Actions ([] : List Int))] ++ jX (t.Next + 1) t.Next v.Kids).length = some t.Nodes.length := by
   unfold pN
   rw [if_pos ⟨by omega, by simp; omega⟩]
   simp
  rw [hin]
  simp only [Option.bind_some]
  rw [List.append_assoc, List.getElem?_append_right (Nat.le_refl _), Nat.sub_self]
  simp only [List.cons_append, List.nil_append, List.getElem?_cons_zero, Option.bind_some]
  rw [List.set_append_right _ _ (Nat.le_refl _), Nat.sub_self, List.set_cons_zero, lJ, hsz]
  congr 1
  simp only [bD.mk.injEq, true_and]
  exact ⟨by omega, rfl⟩
end Go.Proofs.YtojkihhnioeggaaGreatDoor.S
