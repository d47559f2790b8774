import Derived.Test.YtojkihhnioeggaaGreatDoorQEVw5
import Derived.WalkLawsBesides
import Derived.Deep.QuietTactic
import Derived.BigQuiet
import Derived.BigRegion
import Derived.Lib.Hide
import Derived.Deep.RegionWith
set_option linter.unusedSimpArgs false
set_option linter.all false
set_option linter.unusedVariables false
namespace Go.Proofs.YtojkihhnioeggaaGreatDoor.S
open Go Go.Bm
structure Ue (l : List bJ) : Prop where
 len : l.length ≤ 24
 ok : ∀ a, a ∈ l → AOk a
structure Wu (x : aU) : Prop where
 at_ : Ue x.Attrs
 kind : 1 ≤ x.Kind ∧ x.Kind ≤ 13
theorem Hf (d : Nat) : ∀ (l : List aN), (∀ k, k ∈ l → ∀ i p x, x ∈ yA i p k → Wu x) → ∀ i p x, x ∈ mI i p l → Wu x
 | [], _, _, _, _, h => nomatch h
 | v :: l, h, i, p, x, hx => by
  rw [mI, List.mem_append] at hx
  rcases hx with hx | hx
  ·exact h v (by simp) i p x hx
  ·exact Hf d l (fun k hk => h k (by simp [hk])) _ p x hx
theorem nds_ok (v : aN) : ∀ d, Rw d v → ∀ i p x, x ∈ yA i p v → Wu x := by
 induction v using kU with
 | h v ih =>
  intro d hv i p x hx
  match d, hv with
  | d + 1, ⟨hl, hk⟩ =>
  rw [oE, List.mem_cons] at hx
  rcases hx with rfl | hx
  ·exact ⟨⟨hl.alen, hl.attrs⟩, hl.kind⟩
  ·exact Hf d v.Kids (fun k hm i p x hx => ih k hm d (hk k hm) i p x hx) _ _ x hx
theorem Mb (L : List bJ) (h : Ue L) (nm : ByteArray) (j : Unit → Option (aP × Bool)) (hj : ∃ r, j () = some r) : ∀ (k i : Nat), i + k = L.length → ∃ r, ∀ n, k + 21 ≤ n → fG L nm j n (i : Int) = some r
 | 0, i, hi => by
  obtain ⟨r, hr⟩ := hj
  refine ⟨r, fun n hn => ?_⟩
  obtain ⟨n, rfl⟩ := nS n (by omega)
  rw [fG, if_neg (by simp; omega), hr]
 | k + 1, i, hi => by
  have hl := h.len
  have ae : i < L.length := by omega
  have hw : w6 ((i : Int) + 1) = ((i + 1 : Nat) : Int) := by rw [wS (by omega) (by omega)]; omega
  obtain ⟨r, hr⟩ := Mb L h nm j hj k (i + 1) (by omega)
  have hv := (h.ok L[i] (List.getElem_mem ae)).val.cpy
  cases hq : bP L[i].Name nm
  ·refine ⟨r, fun n hn => ?_⟩
   obtain ⟨n, rfl⟩ := nS n (by omega)
   rw [fG, if_pos (by simp; omega), dR ae]
   simp only [oB, hq, fT, if_false, hw]
   exact hr n (by omega)
  ·refine ⟨(L[i].Value, true), fun n hn => ?_⟩
   obtain ⟨n, rfl⟩ := nS n (by omega)
   rw [fG, if_pos (by simp; omega), dR ae]
   simp only [oB, hq, if_true, hv n (by omega)]
theorem attr_tot {L : List bJ} (h : Ue L) (nm : ByteArray) : ∃ r, ∀ n, 60 ≤ n → tZ n L nm = some r := by
 have hl := h.len
 obtain ⟨r, hr⟩ := Mb L h nm (fun (_ : Unit) => some ((aP.mk 0 0 nB ([] : List aP)), false)) ⟨_, rfl⟩ L.length 0 (by omega)
 exact ⟨r, fun n hn => hr n (by omega)⟩
theorem text_tot {L : List bJ} (h : Ue L) (nm : ByteArray) : ∃ r, ∀ n, 60 ≤ n → oP n L nm = some r := by
 obtain ⟨r, hr⟩ := attr_tot h nm
 refine ⟨if (r.1.Kind == 3) = true then r.1.S else nB, fun n hn => ?_⟩
 unfold oP
 rw [hr n hn]
 simp only [oB]
 split <;> rfl
def Vm (L : List bJ) (nm : ByteArray) : ByteArray := (oP 60 L nm).getD default
theorem Yh {L : List bJ} (h : Ue L) (nm : ByteArray) (n : Nat) (hn : 60 ≤ n) : oP n L nm = some (Vm L nm) := by
 obtain ⟨r, hr⟩ := text_tot h nm
 unfold Vm
 rw [hr n hn, hr 60 (Nat.le_refl _)]
 rfl
def tE (l : List aU) : List (Int × ByteArray) := l.map fun x => (x.ID, Vm x.Attrs (⟨#[99, 108, 97, 115, 115]⟩ : ByteArray))
theorem see_L0 (t : bA) (j : List (Int × aU) → List (Int × ByteArray) → Option fO) (st : List aO) (hz : t.Nodes.length ≤ 1000) (hd : (t.Nodes.map aU.ID).Nodup) (ho : ∀ x, x ∈ t.Nodes → Wu x) : ∀ (l pre : List aU) (n : Nat) (q : Int), t.Nodes = pre ++ l → q = pre.length → l.length + 70 < n →
  lE t j st n q (kV pre) (tE pre) = j (kV t.Nodes) (tE t.Nodes)
 | [], pre, n, q, ht, hq, hn => by
  obtain ⟨n, rfl⟩ := nS n (by simp at hn; omega)
  have ab : t.Nodes.length = pre.length := by rw [ht]; simp
  rw [lE, if_neg (by simp; omega), ht, List.append_nil]
 | x :: l, pre, n, q, ht, hq, hn => by
  obtain ⟨n, rfl⟩ := nS n (by simp at hn; omega)
  have ab : t.Nodes.length = pre.length + (l.length + 1) := by rw [ht]; simp
  have hw : w6 (q + 1) = q + 1 := wS (by omega) (by omega)
  have hx := ho x (by rw [ht]; simp)
  have hne : ∀ y, y ∈ pre → y.ID ≠ x.ID := fun y hy => by
   rw [ht, List.map_append, List.nodup_append] at hd
   exact hd.2.2 _ (List.mem_map.2 ⟨y, hy, rfl⟩) _ (by simp)
  rw [lE, if_pos (by simp; omega), kI ht hq]
  simp only [oB, hw, Yh hx.at_ _ n (by simp at hn; omega)]
  rw [sS fun p hp' => by
   obtain ⟨y, hy, rfl⟩ := List.mem_map.1 hp'
   exact hne y hy]
  rw [sS fun p hp' => by
   obtain ⟨y, hy, rfl⟩ := List.mem_map.1 hp'
   exact hne y hy]
  rw [show kV pre ++ [(x.ID, x)] = kV (pre ++ [x]) from (Ep pre [x]).symm, show tE pre ++ [(x.ID, Vm x.Attrs (⟨#[99, 108, 97, 115, 115]⟩ : ByteArray))] = tE (pre ++ [x]) from by simp [tE]]
  exact see_L0 t j st hz hd ho l (pre ++ [x]) n (q + 1) (by rw [ht]; simp) (by simp; omega) (by simp at hn; omega)
theorem cR.len {t : bA} {v : aN} (h : cR t v) : t.Nodes.length = eU v := by rw [h.nodes, Nb]
theorem cR.ok {t : bA} {v : aN} (h : cR t v) (hv : VG v) : ∀ x, x ∈ t.Nodes → Wu x := fun x hx => nds_ok v 13 hv.ok _ _ x (by rw [h.nodes] at hx; exact hx)
theorem Pn {t : bA} {v : aN} (h : cR t v) (hv : VG v) (n : Nat) (hn : Cq v + 3000 ≤ n) : qD n t = some (oV t.Root (eU v)) := by
 have hs := hv.small
 unfold qD vG
 rw [Jf h n hn, Is hv n (by omega)]
 simp only [oB, beq_self_eq_true, Bool.not_true, fT, if_false]
 rw [Er (kV t.Nodes) v n t.Root 0 h.sub (by omega) (by omega)]
 rfl
end Go.Proofs.YtojkihhnioeggaaGreatDoor.S
