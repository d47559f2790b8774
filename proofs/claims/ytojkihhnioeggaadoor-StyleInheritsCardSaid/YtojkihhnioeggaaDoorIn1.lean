/- What the cascade sees of a tree as it is drawn. -/
import Derived.Test.YtojkihhnioeggaaDoorVw5
import Derived.WalkKit
import Derived.WalkSpells
import Derived.WalkLawsBesides
import Derived.Deep.QuietTactic
import Derived.BigQuiet
import Derived.BigRegion
import Derived.Lib.Hide
import Derived.Deep.RegionWith
set_option linter.unusedSimpArgs false
set_option linter.unusedVariables false
set_option linter.unusedSimpArgs false
set_option linter.unusedVariables false
namespace Go.Proofs.YtojkihhnioeggaaDoor.S
open Go Go.Bm
structure AtOk (l : List GAttr) : Prop where
  len : l.length ≤ 24
  ok : ∀ a, a ∈ l → AOk a
structure NdOk (x : GNode) : Prop where
  at_ : AtOk x.Attrs
  kind : 1 ≤ x.Kind ∧ x.Kind ≤ 13
theorem ndss_ok_of (d : Nat) : ∀ (l : List GView), (∀ k, k ∈ l → ∀ i p x, x ∈ nds i p k → NdOk x) → ∀ i p x, x ∈ ndss i p l → NdOk x
  | [], _, _, _, _, h => nomatch h
  | v :: l, h, i, p, x, hx => by
    rw [ndss, List.mem_append] at hx
    rcases hx with hx | hx
    · exact h v (by simp) i p x hx
    · exact ndss_ok_of d l (fun k hk => h k (by simp [hk])) _ p x hx
theorem nds_ok (v : GView) : ∀ d, VOk d v → ∀ i p x, x ∈ nds i p v → NdOk x := by
  induction v using view_ind with
  | h v ih =>
    intro d hv i p x hx
    match d, hv with
    | d + 1, ⟨hl, hk⟩ =>
    rw [nds_eq, List.mem_cons] at hx
    rcases hx with rfl | hx
    · exact ⟨⟨hl.alen, hl.attrs⟩, hl.kind⟩
    · exact ndss_ok_of d v.Kids (fun k hm i p x hx => ih k hm d (hk k hm) i p x hx) _ _ x hx
theorem attr_loop (L : List GAttr) (h : AtOk L) (nm : ByteArray) (j : Unit → Option (GValue × Bool)) (hj : ∃ r, j () = some r) : ∀ (k i : Nat), i + k = L.length → ∃ r, ∀ n, k + 21 ≤ n → view_Attr_L0 L nm j n (i : Int) = some r
  | 0, i, hi => by
    obtain ⟨r, hr⟩ := hj
    refine ⟨r, fun n hn => ?_⟩
    obtain ⟨n, rfl⟩ : ∃ m, n = m + 1 := ⟨n - 1, by omega⟩
    rw [view_Attr_L0, if_neg (by simp; omega), hr]
  | k + 1, i, hi => by
    have hl := h.len
    have hlt : i < L.length := by omega
    have hw : IntKind.wrap .i64 ((i : Int) + 1) = ((i + 1 : Nat) : Int) := by rw [Go.Bm.wrap_small (by omega) (by omega)]; omega
    obtain ⟨r, hr⟩ := attr_loop L h nm j hj k (i + 1) (by omega)
    have hv := (h.ok L[i] (List.getElem_mem hlt)).val.cpy
    cases hq : sEq L[i].Name nm
    · refine ⟨r, fun n hn => ?_⟩
      obtain ⟨n, rfl⟩ : ∃ m, n = m + 1 := ⟨n - 1, by omega⟩
      rw [view_Attr_L0, if_pos (by simp; omega), idx_nat hlt]
      simp only [Option.bind_some, hq, Bool.false_eq_true, if_false, hw]
      exact hr n (by omega)
    · refine ⟨(L[i].Value, true), fun n hn => ?_⟩
      obtain ⟨n, rfl⟩ : ∃ m, n = m + 1 := ⟨n - 1, by omega⟩
      rw [view_Attr_L0, if_pos (by simp; omega), idx_nat hlt]
      simp only [Option.bind_some, hq, if_true, hv n (by omega)]
theorem attr_tot {L : List GAttr} (h : AtOk L) (nm : ByteArray) : ∃ r, ∀ n, 60 ≤ n → view_Attr n L nm = some r := by
  have hl := h.len
  obtain ⟨r, hr⟩ := attr_loop L h nm (fun (_ : Unit) => some ((GValue.mk 0 0 (⟨#[]⟩ : ByteArray) ([] : List GValue)), false)) ⟨_, rfl⟩ L.length 0 (by omega)
  exact ⟨r, fun n hn => hr n (by omega)⟩
theorem text_tot {L : List GAttr} (h : AtOk L) (nm : ByteArray) : ∃ r, ∀ n, 60 ≤ n → view_Text n L nm = some r := by
  obtain ⟨r, hr⟩ := attr_tot h nm
  refine ⟨if (r.1.Kind == 3) = true then r.1.S else (⟨#[]⟩ : ByteArray), fun n hn => ?_⟩
  unfold view_Text
  rw [hr n hn]
  simp only [Option.bind_some]
  split <;> rfl
/-- a text of attributes -/
def txt (L : List GAttr) (nm : ByteArray) : ByteArray := (view_Text 60 L nm).getD default
theorem txt_eq {L : List GAttr} (h : AtOk L) (nm : ByteArray) (n : Nat) (hn : 60 ≤ n) : view_Text n L nm = some (txt L nm) := by
  obtain ⟨r, hr⟩ := text_tot h nm
  unfold txt
  rw [hr n hn, hr 60 (Nat.le_refl _)]
  rfl
def cmap (l : List GNode) : List (Int × ByteArray) := l.map fun x => (x.ID, txt x.Attrs (⟨#[99, 108, 97, 115, 115]⟩ : ByteArray))
theorem see_L0 (t : GTree) (j : List (Int × GNode) → List (Int × ByteArray) → Option Gshape) (st : List GNodeStates) (hz : t.Nodes.length ≤ 1000) (hd : (t.Nodes.map GNode.ID).Nodup) (ho : ∀ x, x ∈ t.Nodes → NdOk x) : ∀ (l pre : List GNode) (n : Nat) (q : Int), t.Nodes = pre ++ l → q = pre.length → l.length + 70 < n →
    style_see_L0 t j st n q (nmap pre) (cmap pre) = j (nmap t.Nodes) (cmap t.Nodes)
  | [], pre, n, q, ht, hq, hn => by
    obtain ⟨n, rfl⟩ : ∃ m, n = m + 1 := ⟨n - 1, by simp at hn; omega⟩
    have hlen : t.Nodes.length = pre.length := by rw [ht]; simp
    rw [style_see_L0, if_neg (by simp; omega), ht, List.append_nil]
  | x :: l, pre, n, q, ht, hq, hn => by
    obtain ⟨n, rfl⟩ : ∃ m, n = m + 1 := ⟨n - 1, by simp at hn; omega⟩
    have hlen : t.Nodes.length = pre.length + (l.length + 1) := by rw [ht]; simp
    have hw : IntKind.wrap .i64 (q + 1) = q + 1 := Go.Bm.wrap_small (by omega) (by omega)
    have hx := ho x (by rw [ht]; simp)
    have hne : ∀ y, y ∈ pre → y.ID ≠ x.ID := fun y hy => by
      rw [ht, List.map_append, List.nodup_append] at hd
      exact hd.2.2 _ (List.mem_map.2 ⟨y, hy, rfl⟩) _ (by simp)
    rw [style_see_L0, if_pos (by simp; omega), idx_at ht hq]
    simp only [Option.bind_some, hw, txt_eq hx.at_ _ n (by simp at hn; omega)]
    rw [mput_new fun p hp' => by
      obtain ⟨y, hy, rfl⟩ := List.mem_map.1 hp'
      exact hne y hy]
    rw [mput_new fun p hp' => by
      obtain ⟨y, hy, rfl⟩ := List.mem_map.1 hp'
      exact hne y hy]
    rw [show nmap pre ++ [(x.ID, x)] = nmap (pre ++ [x]) from (nmap_append pre [x]).symm, show cmap pre ++ [(x.ID, txt x.Attrs (⟨#[99, 108, 97, 115, 115]⟩ : ByteArray))] = cmap (pre ++ [x]) from by simp [cmap]]
    exact see_L0 t j st hz hd ho l (pre ++ [x]) n (q + 1) (by rw [ht]; simp) (by simp; omega) (by simp at hn; omega)
theorem TreeOf.len {t : GTree} {v : GView} (h : TreeOf t v) : t.Nodes.length = vsz v := by rw [h.nodes, nds_len]
theorem TreeOf.ok {t : GTree} {v : GView} (h : TreeOf t v) (hv : VOk 4 v) : ∀ x, x ∈ t.Nodes → NdOk x := fun x hx => nds_ok v 4 hv _ _ x (by rw [h.nodes] at hx; exact hx)
/-- what is seen of a tree, no states given -/
theorem see_nil {t : GTree} {v : GView} (h : TreeOf t v) (hv : VOk 4 v) (n : Nat) (hn : 500 ≤ n) : style_see n t [] = some ⟨nmap t.Nodes, cmap t.Nodes, []⟩ := by
  have hs := VOk.small 4 v hv
  have hl := h.len
  unfold style_see withJ
  exact see_L0 t _ [] (by omega) h.nodup (h.ok hv) t.Nodes [] n 0 rfl rfl (by omega)
theorem order_eq {t : GTree} {v : GView} (h : TreeOf t v) (hv : VOk 4 v) (n : Nat) (hn : vfu v + 3000 ≤ n) : view_Order n t = some (iot t.Root (vsz v)) := by
  have hs := VOk.small 4 v hv
  unfold view_Order view_valid
  rw [examine_eq h n hn, valid_prog hv n (by omega)]
  simp only [Option.bind_some, beq_self_eq_true, Bool.not_true, Bool.false_eq_true, if_false]
  rw [preorder_eq (nmap t.Nodes) v n t.Root 0 h.sub (by omega) (by omega)]
  rfl
end Go.Proofs.YtojkihhnioeggaaDoor.S
