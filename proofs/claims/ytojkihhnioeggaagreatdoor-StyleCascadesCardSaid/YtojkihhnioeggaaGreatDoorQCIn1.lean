import Derived.Test.YtojkihhnioeggaaGreatDoorQCVw5
import Derived.WalkKit
import Derived.WalkSpells
import Derived.WalkLawsBesides
import Derived.Deep.QuietTactic
import Derived.BigQuiet
import Derived.BigRegion
import Derived.Lib.Hide
import Derived.Deep.RegionWith
set_option linter.unusedSimpArgs false
set_option linter.unusedVariables false
set_option linter.unusedSimpArgs false
set_option linter.unusedVariables false
namespace Go.Proofs.YtojkihhnioeggaaGreatDoor.S
open Go Go.Bm
structure Rf (l : List bF) : Prop where
 len : l.length ≤ 24
 ok : ∀ a, a ∈ l → AOk a
structure Tj (x : aR) : Prop where
 at_ : Rf x.Attrs
 kind : 1 ≤ x.Kind ∧ x.Kind ≤ 13
theorem Em (d : Nat) : ∀ (l : List aL), (∀ k, k ∈ l → ∀ i p x, x ∈ wE i p k → Tj x) → ∀ i p x, x ∈ lH i p l → Tj x
 | [], _, _, _, _, h => nomatch h
 | v :: l, h, i, p, x, hx => by
  rw [lH, List.mem_append] at hx
  rcases hx with hx | hx
  ·exact h v (by simp) i p x hx
  ·exact Em d l (fun k hk => h k (by simp [hk])) _ p x hx
theorem nds_ok (v : aL) : ∀ d, pQ d v → ∀ i p x, x ∈ wE i p v → Tj x := by
 induction v using kW with
 | h v ih =>
  intro d hv i p x hx
  match d, hv with
  | d + 1, ⟨hl, hk⟩ =>
  rw [nC, List.mem_cons] at hx
  rcases hx with rfl | hx
  ·exact ⟨⟨hl.alen, hl.attrs⟩, hl.kind⟩
  ·exact Em d v.Kids (fun k hm i p x hx => ih k hm d (hk k hm) i p x hx) _ _ x hx
theorem Ji (L : List bF) (h : Rf L) (nm : ByteArray) (j : Unit → Option (aJ × Bool)) (hj : ∃ r, j () = some r) : ∀ (k i : Nat), i + k = L.length → ∃ r, ∀ n, k + 21 ≤ n → eT L nm j n (i : Int) = some r
 | 0, i, hi => by
  obtain ⟨r, hr⟩ := hj
  refine ⟨r, fun n hn => ?_⟩
  obtain ⟨n, rfl⟩ : ∃ m, n = m + 1 := ⟨n - 1, by omega⟩
  rw [eT, if_neg (by simp; omega), hr]
 | k + 1, i, hi => by
  have hl := h.len
  have hlt : i < L.length := by omega
  have hw : IntKind.wrap .i64 ((i : Int) + 1) = ((i + 1 : Nat) : Int) := by rw [Go.Bm.aU (by omega) (by omega)]; omega
  obtain ⟨r, hr⟩ := Ji L h nm j hj k (i + 1) (by omega)
  have hv := (h.ok L[i] (List.getElem_mem hlt)).val.cpy
  cases hq : bQ L[i].Name nm
  ·refine ⟨r, fun n hn => ?_⟩
   obtain ⟨n, rfl⟩ : ∃ m, n = m + 1 := ⟨n - 1, by omega⟩
   rw [eT, if_pos (by simp; omega), eN hlt]
   simp only [Option.bind_some, hq, Bool.false_eq_true, if_false, hw]
   exact hr n (by omega)
  ·refine ⟨(L[i].Value, true), fun n hn => ?_⟩
   obtain ⟨n, rfl⟩ : ∃ m, n = m + 1 := ⟨n - 1, by omega⟩
   rw [eT, if_pos (by simp; omega), eN hlt]
   simp only [Option.bind_some, hq, if_true, hv n (by omega)]
theorem Zn {L : List bF} (h : Rf L) (nm : ByteArray) : ∃ r, ∀ n, 60 ≤ n → sC n L nm = some r := by
 have hl := h.len
 obtain ⟨r, hr⟩ := Ji L h nm (fun (_ : Unit) => some ((aJ.mk 0 0 (⟨#[]⟩ : ByteArray) ([] : List aJ)), false)) ⟨_, rfl⟩ L.length 0 (by omega)
 exact ⟨r, fun n hn => hr n (by omega)⟩
theorem Xt {L : List bF} (h : Rf L) (nm : ByteArray) : ∃ r, ∀ n, 60 ≤ n → nK n L nm = some r := by
 obtain ⟨r, hr⟩ := Zn h nm
 refine ⟨if (r.1.Kind == 3) = true then r.1.S else (⟨#[]⟩ : ByteArray), fun n hn => ?_⟩
 unfold nK
 rw [hr n hn]
 simp only [Option.bind_some]
 split <;> rfl
def Zq (L : List bF) (nm : ByteArray) : ByteArray := (nK 60 L nm).getD default
theorem Va {L : List bF} (h : Rf L) (nm : ByteArray) (n : Nat) (hn : 60 ≤ n) : nK n L nm = some (Zq L nm) := by
 obtain ⟨r, hr⟩ := Xt h nm
 unfold Zq
 rw [hr n hn, hr 60 (Nat.le_refl _)]
 rfl
def uD (l : List aR) : List (Int × ByteArray) := l.map fun x => (x.ID, Zq x.Attrs (⟨#[99, 108, 97, 115, 115]⟩ : ByteArray))
theorem Xw (t : bB) (j : List (Int × aR) → List (Int × ByteArray) → Option jJ) (st : List aT) (hz : t.Nodes.length ≤ 1000) (hd : (t.Nodes.map aR.ID).Nodup) (ho : ∀ x, x ∈ t.Nodes → Tj x) : ∀ (l pre : List aR) (n : Nat) (q : Int), t.Nodes = pre ++ l → q = pre.length → l.length + 70 < n →
  kF t j st n q (kX pre) (uD pre) = j (kX t.Nodes) (uD t.Nodes)
 | [], pre, n, q, ht, hq, hn => by
  obtain ⟨n, rfl⟩ : ∃ m, n = m + 1 := ⟨n - 1, by simp at hn; omega⟩
  have hlen : t.Nodes.length = pre.length := by rw [ht]; simp
  rw [kF, if_neg (by simp; omega), ht, List.append_nil]
 | x :: l, pre, n, q, ht, hq, hn => by
  obtain ⟨n, rfl⟩ : ∃ m, n = m + 1 := ⟨n - 1, by simp at hn; omega⟩
  have hlen : t.Nodes.length = pre.length + (l.length + 1) := by rw [ht]; simp
  have hw : IntKind.wrap .i64 (q + 1) = q + 1 := Go.Bm.aU (by omega) (by omega)
  have hx := ho x (by rw [ht]; simp)
  have hne : ∀ y, y ∈ pre → y.ID ≠ x.ID := fun y hy => by
   rw [ht, List.map_append, List.nodup_append] at hd
   exact hd.2.2 _ (List.mem_map.2 ⟨y, hy, rfl⟩) _ (by simp)
  rw [kF, if_pos (by simp; omega), kK ht hq]
  simp only [Option.bind_some, hw, Va hx.at_ _ n (by simp at hn; omega)]
  rw [sU fun p hp' => by
   obtain ⟨y, hy, rfl⟩ := List.mem_map.1 hp'
   exact hne y hy]
  rw [sU fun p hp' => by
   obtain ⟨y, hy, rfl⟩ := List.mem_map.1 hp'
   exact hne y hy]
  rw [show kX pre ++ [(x.ID, x)] = kX (pre ++ [x]) from (Ck pre [x]).symm, show uD pre ++ [(x.ID, Zq x.Attrs (⟨#[99, 108, 97, 115, 115]⟩ : ByteArray))] = uD (pre ++ [x]) from by simp [uD]]
  exact Xw t j st hz hd ho l (pre ++ [x]) n (q + 1) (by rw [ht]; simp) (by simp; omega) (by simp at hn; omega)
theorem cV.len {t : bB} {v : aL} (h : cV t v) : t.Nodes.length = gR v := by rw [h.nodes, Ki]
theorem cV.ok {t : bB} {v : aL} (h : cV t v) (hv : pQ 4 v) : ∀ x, x ∈ t.Nodes → Tj x := fun x hx => nds_ok v 4 hv _ _ x (by rw [h.nodes] at hx; exact hx)
theorem Vq {t : bB} {v : aL} (h : cV t v) (hv : pQ 4 v) (n : Nat) (hn : Hh v + 3000 ≤ n) : qT n t = some (oV t.Root (gR v)) := by
 have hs := pQ.small 4 v hv
 unfold qT tM
 rw [Gp h n hn, Ga hv n (by omega)]
 simp only [Option.bind_some, beq_self_eq_true, Bool.not_true, Bool.false_eq_true, if_false]
 rw [Cl (kX t.Nodes) v n t.Root 0 h.sub (by omega) (by omega)]
 rfl
end Go.Proofs.YtojkihhnioeggaaGreatDoor.S
