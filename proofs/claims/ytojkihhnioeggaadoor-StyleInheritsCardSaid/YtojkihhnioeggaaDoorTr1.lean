/- Trees in plain Lean: the nodes of a view, and that the reference's Build lists them. -/
import Derived.Test.YtojkihhnioeggaaDoorGI10
import Derived.Test.YtojkihhnioeggaaDoorDr9
import Derived.WalkKit
import Derived.WalkSpells
import Derived.WalkLawsBesides
import Derived.Deep.QuietTactic
import Derived.BigQuiet
import Derived.BigRegion
import Derived.Lib.Hide
import Derived.Deep.RegionWith
set_option linter.unusedSimpArgs false
set_option linter.unusedVariables false
set_option linter.unusedSimpArgs false
set_option linter.unusedVariables false
namespace Go.Proofs.YtojkihhnioeggaaDoor.S
open Go Go.Bm
mutual
def vsz : GView → Nat
  | ⟨_, _, _, _, kids⟩ => 1 + vszs kids
def vszs : List GView → Nat
  | [] => 0
  | v :: l => vsz v + vszs l
end
theorem vsz_eq (v : GView) : vsz v = 1 + vszs v.Kids := by cases v; rfl
theorem vsz_pos (v : GView) : 1 ≤ vsz v := by rw [vsz_eq]; omega
theorem vszs_mem {k : GView} : ∀ {l : List GView}, k ∈ l → vsz k ≤ vszs l
  | [], h => nomatch h
  | v :: l, h => by
    rw [vszs]
    rcases List.mem_cons.1 h with rfl | h
    · omega
    · have := vszs_mem h; omega
theorem view_ind {P : GView → Prop} (h : ∀ v, (∀ k, k ∈ v.Kids → P k) → P v) (v : GView) : P v := by
  have key : ∀ (m : Nat) (v : GView), vsz v ≤ m → P v := by
    intro m
    induction m with
    | zero => intro v hv; have := vsz_pos v; omega
    | succ m ih =>
      intro v hv
      refine h v fun k hk => ih k ?_
      have := vszs_mem hk
      rw [vsz_eq] at hv
      omega
  exact key _ v (Nat.le_refl _)
/-- the fuel that a walk over a view wants -/
def vfs (f : GView → Nat) : List GView → Nat
  | [] => 0
  | v :: l => f v + vfs f l
mutual
def vfu : GView → Nat
  | ⟨_, _, at_, ac, kids⟩ => at_.length + ac.length + kids.length + 60 + vfus kids
def vfus : List GView → Nat
  | [] => 0
  | v :: l => vfu v + vfus l
end
theorem vfu_eq (v : GView) : vfu v = v.Attrs.length + v.Actions.length + v.Kids.length + 60 + vfus v.Kids := by cases v; rfl
theorem vfus_mem {k : GView} : ∀ {l : List GView}, k ∈ l → vfu k ≤ vfus l
  | [], h => nomatch h
  | v :: l, h => by
    rw [vfus]
    rcases List.mem_cons.1 h with rfl | h
    · omega
    · have := vfus_mem h; omega
def ids : Int → List GView → List Int
  | _, [] => []
  | i, v :: l => i :: ids (i + vsz v) l
mutual
def nds : Int → Int → GView → List GNode
  | i, p, ⟨k, key, at_, ac, kids⟩ => ⟨i, p, k, key, at_, ac, ids (i + 1) kids⟩ :: ndss (i + 1) i kids
def ndss : Int → Int → List GView → List GNode
  | _, _, [] => []
  | i, p, v :: l => nds i p v ++ ndss (i + vsz v) p l
end
def hd (i p : Int) (v : GView) : GNode := ⟨i, p, v.Kind, v.Key, v.Attrs, v.Actions, ids (i + 1) v.Kids⟩
theorem nds_eq (i p : Int) (v : GView) : nds i p v = hd i p v :: ndss (i + 1) i v.Kids := by cases v; rfl
theorem ids_len : ∀ (i : Int) (l : List GView), (ids i l).length = l.length
  | _, [] => rfl
  | i, v :: l => by simp [ids, ids_len]
theorem ndss_len_of : ∀ (l : List GView), (∀ k, k ∈ l → ∀ i p, (nds i p k).length = vsz k) → ∀ i p, (ndss i p l).length = vszs l
  | [], _, _, _ => rfl
  | v :: l, h, i, p => by
    rw [ndss, vszs, List.length_append, h v (by simp), ndss_len_of l fun k hk => h k (by simp [hk])]
theorem nds_len (v : GView) : ∀ i p, (nds i p v).length = vsz v := by
  induction v using view_ind with
  | h v ih =>
    intro i p
    rw [nds_eq, vsz_eq, List.length_cons, ndss_len_of v.Kids ih]
    omega
theorem ndss_len (l : List GView) (i p : Int) : (ndss i p l).length = vszs l := ndss_len_of l (fun k _ => nds_len k) i p
/-- the reference's build -/
theorem build_loop (v : GView) (self : GView → Int → GTree → Option GTree) (p2 : GTree) (j : List Int → Int → Int → List GNode → Option GTree) (hs : ∀ k, k ∈ v.Kids → ∀ t : GTree, 1 ≤ t.Next → t.Next + (vsz k : Int) ≤ 2000000000000 → t.Nodes.length + vsz k ≤ 1000 → self k p2.Next t = some ⟨t.Root, t.Next + vsz k, t.Nodes ++ nds t.Next p2.Next k⟩) (hk : v.Kids.length ≤ 1000) :
    ∀ (l pre : List GView) (n : Nat) (a : List Int) (q r s : Int) (N : List GNode), v.Kids = pre ++ l → q = pre.length → l.length < n → a.length + l.length ≤ 1000 → 1 ≤ s → s + vszs l ≤ 2000000000000 → N.length + vszs l ≤ 1000 →
      ref14_build_L0 v self p2 j n a q r s N = j (a ++ ids s l) r (s + vszs l) (N ++ ndss s p2.Next l)
  | [], pre, n, a, q, r, s, N, hv, hq, hn, ha, h1, h2, h3 => by
    obtain ⟨n, rfl⟩ : ∃ m, n = m + 1 := ⟨n - 1, by simp at hn; omega⟩
    have hlen : v.Kids.length = pre.length := by rw [hv]; simp
    rw [ref14_build_L0, if_neg (by simp; omega)]
    simp [ids, ndss, vszs]
  | k :: l, pre, n, a, q, r, s, N, hv, hq, hn, ha, h1, h2, h3 => by
    obtain ⟨n, rfl⟩ : ∃ m, n = m + 1 := ⟨n - 1, by simp at hn; omega⟩
    have hlen : v.Kids.length = pre.length + (l.length + 1) := by rw [hv]; simp
    have hz := vsz_pos k
    rw [vszs] at h2 h3
    rw [ref14_build_L0, if_pos (by simp; omega)]
    have hap : apd 8 a [s] = some (a ++ [s]) := by
      obtain ⟨b, hb, rfl⟩ := tot_apd (b := 8) (l := a) (els := [s]) (by simp at ha ⊢; omega) (by decide)
      exact hb
    have hix : idx v.Kids q = some k := by
      unfold idx
      rw [if_pos (by omega), hq, Int.toNat_natCast, hv, List.getElem?_append_right (Nat.le_refl _), Nat.sub_self]
      rfl
    have hw : IntKind.wrap .i64 (q + 1) = q + 1 := Go.Bm.wrap_small (by omega) (by omega)
    rw [hap, hix]
    simp only [Option.bind_some]
    rw [hs k (by rw [hv]; simp) ⟨r, s, N⟩ h1 (by show s + _ ≤ _; omega) (by show N.length + _ ≤ _; omega)]
    simp only [Option.bind_some, hw]
    rw [build_loop v self p2 j hs hk l (pre ++ [k]) n (a ++ [s]) (q + 1) r (s + vsz k) (N ++ nds s p2.Next k) (by rw [hv]; simp) (by simp; omega) (by simp at hn; omega) (by simp at ha ⊢; omega) (by omega) (by omega) (by rw [List.length_append, nds_len]; omega)]
    rw [ids, ndss, vszs]
    simp only [List.append_assoc, List.cons_append, List.nil_append]
    congr 1
    omega
theorem build_eq (v : GView) : ∀ (n : Nat) (p : Int) (t : GTree), vfu v ≤ n → 1 ≤ t.Next → t.Next + vsz v ≤ 2000000000000 → t.Nodes.length + vsz v ≤ 1000 → ref14_build n v p t = some ⟨t.Root, t.Next + vsz v, t.Nodes ++ nds t.Next p v⟩ := by
  induction v using view_ind with
  | h v ih =>
    intro n p t hn h1 h2 h3
    have hfu := vfu_eq v
    have hsz := vsz_eq v
    obtain ⟨n, rfl⟩ : ∃ m, n = m + 1 := ⟨n - 1, by omega⟩
    have hkl : v.Kids.length ≤ vszs v.Kids := by
      have : ∀ l : List GView, l.length ≤ vszs l := by
        intro l
        induction l with
        | nil => simp [vszs]
        | cons k l ih => rw [vszs, List.length_cons]; have := vsz_pos k; omega
      exact this _
    rw [ref14_build, ref14_build_body]
    have hap : apd 112 t.Nodes [(GNode.mk t.Next p v.Kind v.Key v.Attrs v.Actions ([] : List Int))] = some (t.Nodes ++ [(GNode.mk t.Next p v.Kind v.Key v.Attrs v.Actions ([] : List Int))]) := by
      obtain ⟨b, hb, rfl⟩ := tot_apd (b := 112) (l := t.Nodes) (els := [(GNode.mk t.Next p v.Kind v.Key v.Attrs v.Actions ([] : List Int))]) (by simp; omega) (by decide)
      exact hb
    have hw : IntKind.wrap .i64 (t.Next + 1) = t.Next + 1 := Go.Bm.wrap_small (by omega) (by omega)
    rw [hap]
    simp only [Option.bind_some, hw]
    unfold withJ
    refine (build_loop v (fun a0 a1 a2 => ref14_build n a0 a1 a2) t _ (fun k hk t' a b c => ih k hk n t.Next t' (by have := vfus_mem hk; omega) a b c) (by omega) v.Kids [] n [] 0 t.Root (t.Next + 1) _ rfl rfl (by omega) (by simp; omega) (by omega) (by omega) (by simp; omega)).trans ?_
    simp only [List.nil_append]
    have hin : inb (t.Nodes.length : Int) (t.Nodes ++ [(GNode.mk t.Next p v.Kind v.Key v.Attrs v.Actions ([] : List Int))] ++ ndss (t.Next + 1) t.Next v.Kids).length = some t.Nodes.length := by
      unfold inb
      rw [if_pos ⟨by omega, by simp; omega⟩]
      simp
    rw [hin]
    simp only [Option.bind_some]
    rw [List.append_assoc, List.getElem?_append_right (Nat.le_refl _), Nat.sub_self]
    simp only [List.cons_append, List.nil_append, List.getElem?_cons_zero, Option.bind_some]
    rw [List.set_append_right _ _ (Nat.le_refl _), Nat.sub_self, List.set_cons_zero, nds_eq, hsz]
    congr 1
    simp only [GTree.mk.injEq, true_and]
    exact ⟨by omega, rfl⟩
end Go.Proofs.YtojkihhnioeggaaDoor.S
