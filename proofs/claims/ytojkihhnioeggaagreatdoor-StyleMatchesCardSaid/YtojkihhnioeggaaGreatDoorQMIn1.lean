import Derived.Test.YtojkihhnioeggaaGreatDoorQMVw5
import Derived.WalkKit
import Derived.WalkSpells
import Derived.WalkLawsBesides
import Derived.Deep.QuietTactic
import Derived.BigQuiet
import Derived.BigRegion
import Derived.Lib.Hide
import Derived.Deep.RegionWith
set_option linter.unusedSimpArgs false
set_option linter.unusedVariables false
set_option linter.unusedSimpArgs false
set_option linter.unusedVariables false
namespace Go.Proofs.YtojkihhnioeggaaGreatDoor.S
open Go Go.Bm
structure Lw (l : List aZ) : Prop where
 len : l.length ≤ 24
 ok : ∀ a, a ∈ l → Zu a
structure Pa (x : aR) : Prop where
 at_ : Lw x.Attrs
 kind : 1 ≤ x.Kind ∧ x.Kind ≤ 13
theorem Cb (d : Nat) : ∀ (l : List aL), (∀ k, k ∈ l → ∀ i p x, x ∈ uH i p k → Pa x) → ∀ i p x, x ∈ kL i p l → Pa x
 | [], _, _, _, _, h => nomatch h
 | v :: l, h, i, p, x, hx => by
  rw [kL, List.mem_append] at hx
  rcases hx with hx | hx
  ·exact h v (by simp) i p x hx
  ·exact Cb d l (fun k hk => h k (by simp [hk])) _ p x hx
theorem Yt (v : aL) : ∀ d, qX d v → ∀ i p x, x ∈ uH i p v → Pa x := by
 induction v using jY with
 | h v ih =>
  intro d hv i p x hx
  match d, hv with
  | d + 1, ⟨hl, hk⟩ =>
  rw [mB, List.mem_cons] at hx
  rcases hx with rfl | hx
  ·exact ⟨⟨hl.alen, hl.attrs⟩, hl.kind⟩
  ·exact Cb d v.Kids (fun k hm i p x hx => ih k hm d (hk k hm) i p x hx) _ _ x hx
theorem Gi (L : List aZ) (h : Lw L) (nm : ByteArray) (j : Unit → Option (aH × Bool)) (hj : ∃ r, j () = some r) : ∀ (k i : Nat), i + k = L.length → ∃ r, ∀ n, k + 21 ≤ n → eK L nm j n (i : Int) = some r
 | 0, i, hi => by
  obtain ⟨r, hr⟩ := hj
  refine ⟨r, fun n hn => ?_⟩
  obtain ⟨n, rfl⟩ : ∃ m, n = m + 1 := ⟨n - 1, by omega⟩
  rw [eK, if_neg (by simp; omega), hr]
 | k + 1, i, hi => by
  have hl := h.len
  have hlt : i < L.length := by omega
  have hw : IntKind.wrap .i64 ((i : Int) + 1) = ((i + 1 : Nat) : Int) := by rw [Go.Bm.bB (by omega) (by omega)]; omega
  obtain ⟨r, hr⟩ := Gi L h nm j hj k (i + 1) (by omega)
  have hv := (h.ok L[i] (List.getElem_mem hlt)).val.cpy
  cases hq : cG L[i].Name nm
  ·refine ⟨r, fun n hn => ?_⟩
   obtain ⟨n, rfl⟩ : ∃ m, n = m + 1 := ⟨n - 1, by omega⟩
   rw [eK, if_pos (by simp; omega), hZ hlt]
   simp only [Option.bind_some, hq, Bool.false_eq_true, if_false, hw]
   exact hr n (by omega)
  ·refine ⟨(L[i].Value, true), fun n hn => ?_⟩
   obtain ⟨n, rfl⟩ : ∃ m, n = m + 1 := ⟨n - 1, by omega⟩
   rw [eK, if_pos (by simp; omega), hZ hlt]
   simp only [Option.bind_some, hq, if_true, hv n (by omega)]
theorem Sa {L : List aZ} (h : Lw L) (nm : ByteArray) : ∃ r, ∀ n, 60 ≤ n → rK n L nm = some r := by
 have hl := h.len
 obtain ⟨r, hr⟩ := Gi L h nm (fun (_ : Unit) => some ((aH.mk 0 0 (⟨#[]⟩ : ByteArray) ([] : List aH)), false)) ⟨_, rfl⟩ L.length 0 (by omega)
 exact ⟨r, fun n hn => hr n (by omega)⟩
theorem Sh {L : List aZ} (h : Lw L) (nm : ByteArray) : ∃ r, ∀ n, 60 ≤ n → mD n L nm = some r := by
 obtain ⟨r, hr⟩ := Sa h nm
 refine ⟨if (r.1.Kind == 3) = true then r.1.S else (⟨#[]⟩ : ByteArray), fun n hn => ?_⟩
 unfold mD
 rw [hr n hn]
 simp only [Option.bind_some]
 split <;> rfl
def Um (L : List aZ) (nm : ByteArray) : ByteArray := (mD 60 L nm).getD default
theorem Ui {L : List aZ} (h : Lw L) (nm : ByteArray) (n : Nat) (hn : 60 ≤ n) : mD n L nm = some (Um L nm) := by
 obtain ⟨r, hr⟩ := Sh h nm
 unfold Um
 rw [hr n hn, hr 60 (Nat.le_refl _)]
 rfl
def xW (l : List aR) : List (Int × ByteArray) := l.map fun x => (x.ID, Um x.Attrs (⟨#[99, 108, 97, 115, 115]⟩ : ByteArray))
theorem Sw (t : bC) (j : List (Int × aR) → List (Int × ByteArray) → Option iN) (st : List aU) (hz : t.Nodes.length ≤ 1000) (hd : (t.Nodes.map aR.ID).Nodup) (ho : ∀ x, x ∈ t.Nodes → Pa x) : ∀ (l pre : List aR) (n : Nat) (q : Int), t.Nodes = pre ++ l → q = pre.length → l.length + 70 < n →
  jN t j st n q (lM pre) (xW pre) = j (lM t.Nodes) (xW t.Nodes)
 | [], pre, n, q, ht, hq, hn => by
  obtain ⟨n, rfl⟩ : ∃ m, n = m + 1 := ⟨n - 1, by simp at hn; omega⟩
  have hlen : t.Nodes.length = pre.length := by rw [ht]; simp
  rw [jN, if_neg (by simp; omega), ht, List.append_nil]
 | x :: l, pre, n, q, ht, hq, hn => by
  obtain ⟨n, rfl⟩ : ∃ m, n = m + 1 := ⟨n - 1, by simp at hn; omega⟩
  have hlen : t.Nodes.length = pre.length + (l.length + 1) := by rw [ht]; simp
  have hw : IntKind.wrap .i64 (q + 1) = q + 1 := Go.Bm.bB (by omega) (by omega)
  have hx := ho x (by rw [ht]; simp)
  have hne : ∀ y, y ∈ pre → y.ID ≠ x.ID := fun y hy => by
   rw [ht, List.map_append, List.nodup_append] at hd
   exact hd.2.2 _ (List.mem_map.2 ⟨y, hy, rfl⟩) _ (by simp)
  rw [jN, if_pos (by simp; omega), pZ ht hq]
  simp only [Option.bind_some, hw, Ui hx.at_ _ n (by simp at hn; omega)]
  rw [vB fun p hp' => by
   obtain ⟨y, hy, rfl⟩ := List.mem_map.1 hp'
   exact hne y hy]
  rw [vB fun p hp' => by
   obtain ⟨y, hy, rfl⟩ := List.mem_map.1 hp'
   exact hne y hy]
  rw [show lM pre ++ [(x.ID, x)] = lM (pre ++ [x]) from (Aa pre [x]).symm, show xW pre ++ [(x.ID, Um x.Attrs (⟨#[99, 108, 97, 115, 115]⟩ : ByteArray))] = xW (pre ++ [x]) from by simp [xW]]
  exact Sw t j st hz hd ho l (pre ++ [x]) n (q + 1) (by rw [ht]; simp) (by simp; omega) (by simp at hn; omega)
theorem cS.len {t : bC} {v : aL} (h : cS t v) : t.Nodes.length = gP v := by rw [h.nodes, Ip]
theorem cS.ok {t : bC} {v : aL} (h : cS t v) (hv : qX 4 v) : ∀ x, x ∈ t.Nodes → Pa x := fun x hx => Yt v 4 hv _ _ x (by rw [h.nodes] at hx; exact hx)
end Go.Proofs.YtojkihhnioeggaaGreatDoor.S
