import Derived.Test.YtojkihhnioeggaaGreatDoorQRVw5
import Derived.WalkKit
import Derived.WalkSpells
import Derived.WalkLawsBesides
import Derived.Deep.QuietTactic
import Derived.BigQuiet
import Derived.BigRegion
import Derived.Lib.Hide
import Derived.Deep.RegionWith
set_option linter.unusedSimpArgs false
set_option linter.unusedVariables false
set_option linter.unusedSimpArgs false
set_option linter.unusedVariables false
namespace Go.Proofs.YtojkihhnioeggaaGreatDoor.S
open Go Go.Bm
structure Pq (l : List aZ) : Prop where
 len : l.length ≤ 24
 ok : ∀ a, a ∈ l → AOk a
structure Rv (x : aP) : Prop where
 at_ : Pq x.Attrs
 kind : 1 ≤ x.Kind ∧ x.Kind ≤ 13
theorem Dh (d : Nat) : ∀ (l : List aG), (∀ k, k ∈ l → ∀ i p x, x ∈ vK i p k → Rv x) → ∀ i p x, x ∈ kO i p l → Rv x
 | [], _, _, _, _, h => nomatch h
 | v :: l, h, i, p, x, hx => by
  rw [kO, List.mem_append] at hx
  rcases hx with hx | hx
  ·exact h v (by simp) i p x hx
  ·exact Dh d l (fun k hk => h k (by simp [hk])) _ p x hx
theorem nds_ok (v : aG) : ∀ d, oT d v → ∀ i p x, x ∈ vK i p v → Rv x := by
 induction v using kD with
 | h v ih =>
  intro d hv i p x hx
  match d, hv with
  | d + 1, ⟨hl, hk⟩ =>
  rw [mM, List.mem_cons] at hx
  rcases hx with rfl | hx
  ·exact ⟨⟨hl.alen, hl.attrs⟩, hl.kind⟩
  ·exact Dh d v.Kids (fun k hm i p x hx => ih k hm d (hk k hm) i p x hx) _ _ x hx
theorem Hv (L : List aZ) (h : Pq L) (nm : ByteArray) (j : Unit → Option (aD × Bool)) (hj : ∃ r, j () = some r) : ∀ (k i : Nat), i + k = L.length → ∃ r, ∀ n, k + 21 ≤ n → eQ L nm j n (i : Int) = some r
 | 0, i, hi => by
  obtain ⟨r, hr⟩ := hj
  refine ⟨r, fun n hn => ?_⟩
  obtain ⟨n, rfl⟩ : ∃ m, n = m + 1 := ⟨n - 1, by omega⟩
  rw [eQ, if_neg (by simp; omega), hr]
 | k + 1, i, hi => by
  have hl := h.len
  have hlt : i < L.length := by omega
  have hw : IntKind.wrap .i64 ((i : Int) + 1) = ((i + 1 : Nat) : Int) := by rw [Go.Bm.aS (by omega) (by omega)]; omega
  obtain ⟨r, hr⟩ := Hv L h nm j hj k (i + 1) (by omega)
  have hv := (h.ok L[i] (List.getElem_mem hlt)).val.cpy
  cases hq : cS L[i].Name nm
  ·refine ⟨r, fun n hn => ?_⟩
   obtain ⟨n, rfl⟩ : ∃ m, n = m + 1 := ⟨n - 1, by omega⟩
   rw [eQ, if_pos (by simp; omega), dS hlt]
   simp only [Option.bind_some, hq, Bool.false_eq_true, if_false, hw]
   exact hr n (by omega)
  ·refine ⟨(L[i].Value, true), fun n hn => ?_⟩
   obtain ⟨n, rfl⟩ : ∃ m, n = m + 1 := ⟨n - 1, by omega⟩
   rw [eQ, if_pos (by simp; omega), dS hlt]
   simp only [Option.bind_some, hq, if_true, hv n (by omega)]
theorem Ya {L : List aZ} (h : Pq L) (nm : ByteArray) : ∃ r, ∀ n, 60 ≤ n → rQ n L nm = some r := by
 have hl := h.len
 obtain ⟨r, hr⟩ := Hv L h nm (fun (_ : Unit) => some ((aD.mk 0 0 (⟨#[]⟩ : ByteArray) ([] : List aD)), false)) ⟨_, rfl⟩ L.length 0 (by omega)
 exact ⟨r, fun n hn => hr n (by omega)⟩
theorem Wg {L : List aZ} (h : Pq L) (nm : ByteArray) : ∃ r, ∀ n, 60 ≤ n → mV n L nm = some r := by
 obtain ⟨r, hr⟩ := Ya h nm
 refine ⟨if (r.1.Kind == 3) = true then r.1.S else (⟨#[]⟩ : ByteArray), fun n hn => ?_⟩
 unfold mV
 rw [hr n hn]
 simp only [Option.bind_some]
 split <;> rfl
def Yc (L : List aZ) (nm : ByteArray) : ByteArray := (mV 60 L nm).getD default
theorem Tn {L : List aZ} (h : Pq L) (nm : ByteArray) (n : Nat) (hn : 60 ≤ n) : mV n L nm = some (Yc L nm) := by
 obtain ⟨r, hr⟩ := Wg h nm
 unfold Yc
 rw [hr n hn, hr 60 (Nat.le_refl _)]
 rfl
def tO (l : List aP) : List (Int × ByteArray) := l.map fun x => (x.ID, Yc x.Attrs (⟨#[99, 108, 97, 115, 115]⟩ : ByteArray))
theorem Wj (t : bA) (j : List (Int × aP) → List (Int × ByteArray) → Option iY) (st : List aT) (hz : t.Nodes.length ≤ 1000) (hd : (t.Nodes.map aP.ID).Nodup) (ho : ∀ x, x ∈ t.Nodes → Rv x) : ∀ (l pre : List aP) (n : Nat) (q : Int), t.Nodes = pre ++ l → q = pre.length → l.length + 70 < n →
  jL t j st n q (kE pre) (tO pre) = j (kE t.Nodes) (tO t.Nodes)
 | [], pre, n, q, ht, hq, hn => by
  obtain ⟨n, rfl⟩ : ∃ m, n = m + 1 := ⟨n - 1, by simp at hn; omega⟩
  have hlen : t.Nodes.length = pre.length := by rw [ht]; simp
  rw [jL, if_neg (by simp; omega), ht, List.append_nil]
 | x :: l, pre, n, q, ht, hq, hn => by
  obtain ⟨n, rfl⟩ : ∃ m, n = m + 1 := ⟨n - 1, by simp at hn; omega⟩
  have hlen : t.Nodes.length = pre.length + (l.length + 1) := by rw [ht]; simp
  have hw : IntKind.wrap .i64 (q + 1) = q + 1 := Go.Bm.aS (by omega) (by omega)
  have hx := ho x (by rw [ht]; simp)
  have hne : ∀ y, y ∈ pre → y.ID ≠ x.ID := fun y hy => by
   rw [ht, List.map_append, List.nodup_append] at hd
   exact hd.2.2 _ (List.mem_map.2 ⟨y, hy, rfl⟩) _ (by simp)
  rw [jL, if_pos (by simp; omega), jQ ht hq]
  simp only [Option.bind_some, hw, Tn hx.at_ _ n (by simp at hn; omega)]
  rw [sI fun p hp' => by
   obtain ⟨y, hy, rfl⟩ := List.mem_map.1 hp'
   exact hne y hy]
  rw [sI fun p hp' => by
   obtain ⟨y, hy, rfl⟩ := List.mem_map.1 hp'
   exact hne y hy]
  rw [show kE pre ++ [(x.ID, x)] = kE (pre ++ [x]) from (Bc pre [x]).symm, show tO pre ++ [(x.ID, Yc x.Attrs (⟨#[99, 108, 97, 115, 115]⟩ : ByteArray))] = tO (pre ++ [x]) from by simp [tO]]
  exact Wj t j st hz hd ho l (pre ++ [x]) n (q + 1) (by rw [ht]; simp) (by simp; omega) (by simp at hn; omega)
theorem cT.len {t : bA} {v : aG} (h : cT t v) : t.Nodes.length = gD v := by rw [h.nodes, Ix]
theorem cT.ok {t : bA} {v : aG} (h : cT t v) (hv : oT 4 v) : ∀ x, x ∈ t.Nodes → Rv x := fun x hx => nds_ok v 4 hv _ _ x (by rw [h.nodes] at hx; exact hx)
theorem Ue {t : bA} {v : aG} (h : cT t v) (hv : oT 4 v) (n : Nat) (hn : Fy v + 3000 ≤ n) : qB n t = some (oC t.Root (gD v)) := by
 have hs := oT.small 4 v hv
 unfold qB sV
 rw [Fc h n hn, Ep hv n (by omega)]
 simp only [Option.bind_some, beq_self_eq_true, Bool.not_true, Bool.false_eq_true, if_false]
 rw [Bd (kE t.Nodes) v n t.Root 0 h.sub (by omega) (by omega)]
 rfl
end Go.Proofs.YtojkihhnioeggaaGreatDoor.S
