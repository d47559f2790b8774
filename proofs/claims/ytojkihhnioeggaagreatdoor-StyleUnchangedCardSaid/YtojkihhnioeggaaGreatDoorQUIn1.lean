import Derived.Test.YtojkihhnioeggaaGreatDoorQUVw5
import Derived.WalkKit
import Derived.WalkSpells
import Derived.WalkLawsBesides
import Derived.Deep.QuietTactic
import Derived.BigQuiet
import Derived.BigRegion
import Derived.Lib.Hide
import Derived.Deep.RegionWith
set_option linter.unusedSimpArgs false
set_option linter.unusedVariables false
set_option linter.unusedSimpArgs false
set_option linter.unusedVariables false
namespace Go.Proofs.YtojkihhnioeggaaGreatDoor.S
open Go Go.Bm
structure Qp (l : List bD) : Prop where
 len : l.length ≤ 24
 ok : ∀ a, a ∈ l → AOk a
structure Ta (x : aP) : Prop where
 at_ : Qp x.Attrs
 kind : 1 ≤ x.Kind ∧ x.Kind ≤ 13
theorem Dz (d : Nat) : ∀ (l : List aJ), (∀ k, k ∈ l → ∀ i p x, x ∈ vX i p k → Ta x) → ∀ i p x, x ∈ kT i p l → Ta x
 | [], _, _, _, _, h => nomatch h
 | v :: l, h, i, p, x, hx => by
  rw [kT, List.mem_append] at hx
  rcases hx with hx | hx
  ·exact h v (by simp) i p x hx
  ·exact Dz d l (fun k hk => h k (by simp [hk])) _ p x hx
theorem nds_ok (v : aJ) : ∀ d, nZ d v → ∀ i p x, x ∈ vX i p v → Ta x := by
 induction v using kL with
 | h v ih =>
  intro d hv i p x hx
  match d, hv with
  | d + 1, ⟨hl, hk⟩ =>
  rw [mR, List.mem_cons] at hx
  rcases hx with rfl | hx
  ·exact ⟨⟨hl.alen, hl.attrs⟩, hl.kind⟩
  ·exact Dz d v.Kids (fun k hm i p x hx => ih k hm d (hk k hm) i p x hx) _ _ x hx
theorem Iv (L : List bD) (h : Qp L) (nm : ByteArray) (j : Unit → Option (aF × Bool)) (hj : ∃ r, j () = some r) : ∀ (k i : Nat), i + k = L.length → ∃ r, ∀ n, k + 21 ≤ n → eU L nm j n (i : Int) = some r
 | 0, i, hi => by
  obtain ⟨r, hr⟩ := hj
  refine ⟨r, fun n hn => ?_⟩
  obtain ⟨n, rfl⟩ : ∃ m, n = m + 1 := ⟨n - 1, by omega⟩
  rw [eU, if_neg (by simp; omega), hr]
 | k + 1, i, hi => by
  have hl := h.len
  have hlt : i < L.length := by omega
  have hw : IntKind.wrap .i64 ((i : Int) + 1) = ((i + 1 : Nat) : Int) := by rw [Go.Bm.aT (by omega) (by omega)]; omega
  obtain ⟨r, hr⟩ := Iv L h nm j hj k (i + 1) (by omega)
  have hv := (h.ok L[i] (List.getElem_mem hlt)).val.cpy
  cases hq : bV L[i].Name nm
  ·refine ⟨r, fun n hn => ?_⟩
   obtain ⟨n, rfl⟩ : ∃ m, n = m + 1 := ⟨n - 1, by omega⟩
   rw [eU, if_pos (by simp; omega), dU hlt]
   simp only [Option.bind_some, hq, Bool.false_eq_true, if_false, hw]
   exact hr n (by omega)
  ·refine ⟨(L[i].Value, true), fun n hn => ?_⟩
   obtain ⟨n, rfl⟩ : ∃ m, n = m + 1 := ⟨n - 1, by omega⟩
   rw [eU, if_pos (by simp; omega), dU hlt]
   simp only [Option.bind_some, hq, if_true, hv n (by omega)]
theorem Zb {L : List bD} (h : Qp L) (nm : ByteArray) : ∃ r, ∀ n, 60 ≤ n → rZ n L nm = some r := by
 have hl := h.len
 obtain ⟨r, hr⟩ := Iv L h nm (fun (_ : Unit) => some ((aF.mk 0 0 (⟨#[]⟩ : ByteArray) ([] : List aF)), false)) ⟨_, rfl⟩ L.length 0 (by omega)
 exact ⟨r, fun n hn => hr n (by omega)⟩
theorem Xi {L : List bD} (h : Qp L) (nm : ByteArray) : ∃ r, ∀ n, 60 ≤ n → mZ n L nm = some r := by
 obtain ⟨r, hr⟩ := Zb h nm
 refine ⟨if (r.1.Kind == 3) = true then r.1.S else (⟨#[]⟩ : ByteArray), fun n hn => ?_⟩
 unfold mZ
 rw [hr n hn]
 simp only [Option.bind_some]
 split <;> rfl
def Zf (L : List bD) (nm : ByteArray) : ByteArray := (mZ 60 L nm).getD default
theorem Up {L : List bD} (h : Qp L) (nm : ByteArray) (n : Nat) (hn : 60 ≤ n) : mZ n L nm = some (Zf L nm) := by
 obtain ⟨r, hr⟩ := Xi h nm
 unfold Zf
 rw [hr n hn, hr 60 (Nat.le_refl _)]
 rfl
def sT (l : List aP) : List (Int × ByteArray) := l.map fun x => (x.ID, Zf x.Attrs (⟨#[99, 108, 97, 115, 115]⟩ : ByteArray))
theorem Xl (t : bA) (j : List (Int × aP) → List (Int × ByteArray) → Option eI) (st : List aR) (hz : t.Nodes.length ≤ 1000) (hd : (t.Nodes.map aP.ID).Nodup) (ho : ∀ x, x ∈ t.Nodes → Ta x) : ∀ (l pre : List aP) (n : Nat) (q : Int), t.Nodes = pre ++ l → q = pre.length → l.length + 70 < n →
  jR t j st n q (jZ pre) (sT pre) = j (jZ t.Nodes) (sT t.Nodes)
 | [], pre, n, q, ht, hq, hn => by
  obtain ⟨n, rfl⟩ : ∃ m, n = m + 1 := ⟨n - 1, by simp at hn; omega⟩
  have hlen : t.Nodes.length = pre.length := by rw [ht]; simp
  rw [jR, if_neg (by simp; omega), ht, List.append_nil]
 | x :: l, pre, n, q, ht, hq, hn => by
  obtain ⟨n, rfl⟩ : ∃ m, n = m + 1 := ⟨n - 1, by simp at hn; omega⟩
  have hlen : t.Nodes.length = pre.length + (l.length + 1) := by rw [ht]; simp
  have hw : IntKind.wrap .i64 (q + 1) = q + 1 := Go.Bm.aT (by omega) (by omega)
  have hx := ho x (by rw [ht]; simp)
  have hne : ∀ y, y ∈ pre → y.ID ≠ x.ID := fun y hy => by
   rw [ht, List.map_append, List.nodup_append] at hd
   exact hd.2.2 _ (List.mem_map.2 ⟨y, hy, rfl⟩) _ (by simp)
  rw [jR, if_pos (by simp; omega), jX ht hq]
  simp only [Option.bind_some, hw, Up hx.at_ _ n (by simp at hn; omega)]
  rw [qO fun p hp' => by
   obtain ⟨y, hy, rfl⟩ := List.mem_map.1 hp'
   exact hne y hy]
  rw [qO fun p hp' => by
   obtain ⟨y, hy, rfl⟩ := List.mem_map.1 hp'
   exact hne y hy]
  rw [show jZ pre ++ [(x.ID, x)] = jZ (pre ++ [x]) from (Bw pre [x]).symm, show sT pre ++ [(x.ID, Zf x.Attrs (⟨#[99, 108, 97, 115, 115]⟩ : ByteArray))] = sT (pre ++ [x]) from by simp [sT]]
  exact Xl t j st hz hd ho l (pre ++ [x]) n (q + 1) (by rw [ht]; simp) (by simp; omega) (by simp at hn; omega)
theorem cM.len {t : bA} {v : aJ} (h : cM t v) : t.Nodes.length = fW v := by rw [h.nodes, Ju]
theorem cM.ok {t : bA} {v : aJ} (h : cM t v) (hv : nZ 4 v) : ∀ x, x ∈ t.Nodes → Ta x := fun x hx => nds_ok v 4 hv _ _ x (by rw [h.nodes] at hx; exact hx)
theorem Lx {t : bA} {v : aJ} (h : cM t v) (hv : nZ 4 v) (n : Nat) (hn : Bn v + 3000 ≤ n) : oE n t = some (nV t.Root (fW v)) := by
 have hs := nZ.small 4 v hv
 unfold oE tI
 rw [Ga h n hn, Fj hv n (by omega)]
 simp only [Option.bind_some, beq_self_eq_true, Bool.not_true, Bool.false_eq_true, if_false]
 rw [Bx (jZ t.Nodes) v n t.Root 0 h.sub (by omega) (by omega)]
 rfl
end Go.Proofs.YtojkihhnioeggaaGreatDoor.S
