/- Trees in plain Lean: what the program sees of a tree that was built. -/
import Derived.Test.YtojkihhnioeggaaDoorTr1
import Derived.WalkKit
import Derived.WalkSpells
import Derived.WalkLawsBesides
import Derived.Deep.QuietTactic
import Derived.BigQuiet
import Derived.BigRegion
import Derived.Lib.Hide
import Derived.Deep.RegionWith
set_option linter.unusedSimpArgs false
set_option linter.unusedVariables false
set_option linter.unusedSimpArgs false
set_option linter.unusedVariables false
namespace Go.Proofs.YtojkihhnioeggaaDoor.S
open Go Go.Bm
theorem idx_at {α : Type} {pre l : List α} {x : α} {q : Int} {L : List α} (hL : L = pre ++ x :: l) (hq : q = pre.length) : idx L q = some x := by
  unfold idx
  rw [if_pos (by omega), hq, Int.toNat_natCast, hL, List.getElem?_append_right (Nat.le_refl _), Nat.sub_self]
  rfl
theorem apd_eq {α : Type} {b : Nat} {l els : List α} (h : l.length + els.length ≤ 100000) (hb : b ≤ 1000) : apd b l els = some (l ++ els) := by
  obtain ⟨r, hr, rfl⟩ := tot_apd h hb
  exact hr
def iot : Int → Nat → List Int
  | _, 0 => []
  | i, n + 1 => i :: iot (i + 1) n
theorem iot_add : ∀ (n m : Nat) (i : Int), iot i (n + m) = iot i n ++ iot (i + n) m
  | 0, m, i => by simp [iot]
  | n + 1, m, i => by
    rw [show n + 1 + m = (n + m) + 1 by omega, iot, iot, iot_add n m (i + 1), List.cons_append]
    congr 3
    omega
theorem iot_len : ∀ (n : Nat) (i : Int), (iot i n).length = n
  | 0, _ => rfl
  | n + 1, i => by rw [iot, List.length_cons, iot_len]
theorem iot_mem : ∀ {n : Nat} {i x : Int}, x ∈ iot i n ↔ i ≤ x ∧ x < i + n
  | 0, i, x => by simp [iot]
  | n + 1, i, x => by
    rw [iot, List.mem_cons, iot_mem]
    constructor
    · rintro (h | h) <;> omega
    · intro h
      by_cases e : x = i
      · exact .inl e
      · exact .inr (by omega)
theorem iot_nodup : ∀ (n : Nat) (i : Int), (iot i n).Nodup
  | 0, _ => .nil
  | n + 1, i => by
    rw [iot, List.nodup_cons]
    exact ⟨fun h => by have := (iot_mem.1 h).1; omega, iot_nodup n _⟩
theorem ndss_ids_of : ∀ (l : List GView), (∀ k, k ∈ l → ∀ i p, (nds i p k).map GNode.ID = iot i (vsz k)) → ∀ i p, (ndss i p l).map GNode.ID = iot i (vszs l)
  | [], _, _, _ => rfl
  | v :: l, h, i, p => by
    rw [ndss, vszs, List.map_append, h v (by simp), ndss_ids_of l (fun k hk => h k (by simp [hk])), iot_add]
theorem nds_ids (v : GView) : ∀ i p, (nds i p v).map GNode.ID = iot i (vsz v) := by
  induction v using view_ind with
  | h v ih =>
    intro i p
    rw [nds_eq, vsz_eq, List.map_cons, ndss_ids_of v.Kids ih, Nat.add_comm, iot]
    rfl
theorem ndss_ids (l : List GView) (i p : Int) : (ndss i p l).map GNode.ID = iot i (vszs l) := ndss_ids_of l (fun k _ => nds_ids k) i p
theorem ndss_par_of : ∀ (l : List GView), (∀ k, k ∈ l → ∀ i p x, x ∈ nds i p k → (x.ID = i ∧ x.Parent = p) ∨ (i < x.ID ∧ i ≤ x.Parent ∧ x.Parent < x.ID)) → ∀ i p x, x ∈ ndss i p l → i ≤ x.ID ∧ (x.Parent = p ∨ (i ≤ x.Parent ∧ x.Parent < x.ID))
  | [], _, _, _, _, h => nomatch h
  | v :: l, h, i, p, x, hx => by
    rw [ndss, List.mem_append] at hx
    rcases hx with hx | hx
    · rcases h v (by simp) i p x hx with ⟨a, b⟩ | ⟨a, b, c⟩
      · exact ⟨by omega, .inl b⟩
      · exact ⟨by omega, .inr ⟨b, c⟩⟩
    · obtain ⟨a, b⟩ := ndss_par_of l (fun k hk => h k (by simp [hk])) _ p x hx
      refine ⟨by omega, ?_⟩
      rcases b with b | ⟨b, c⟩
      · exact .inl b
      · exact .inr ⟨by omega, c⟩
theorem nds_par (v : GView) : ∀ i p x, x ∈ nds i p v → (x.ID = i ∧ x.Parent = p) ∨ (i < x.ID ∧ i ≤ x.Parent ∧ x.Parent < x.ID) := by
  induction v using view_ind with
  | h v ih =>
    intro i p x hx
    rw [nds_eq, List.mem_cons] at hx
    rcases hx with rfl | hx
    · exact .inl ⟨rfl, rfl⟩
    · obtain ⟨a, b⟩ := ndss_par_of v.Kids ih _ _ x hx
      rcases b with b | ⟨b, c⟩
      · exact .inr ⟨by omega, by omega, by omega⟩
      · exact .inr ⟨by omega, by omega, c⟩
/-- a child is a node whose parent is known -/
theorem ids_node : ∀ (l : List GView) (s p k : Int), k ∈ ids s l → ∃ y, y ∈ ndss s p l ∧ y.ID = k ∧ y.Parent = p
  | [], _, _, _, h => nomatch h
  | v :: l, s, p, k, h => by
    rw [ids, List.mem_cons] at h
    rw [ndss]
    rcases h with rfl | h
    · exact ⟨hd k p v, by rw [nds_eq]; simp, rfl, rfl⟩
    · obtain ⟨y, hy, h1, h2⟩ := ids_node l _ p k h
      exact ⟨y, by simp [hy], h1, h2⟩
theorem ndss_kid_of : ∀ (l : List GView), (∀ k, k ∈ l → ∀ i p x c, x ∈ nds i p k → c ∈ x.Kids → ∃ y, y ∈ nds i p k ∧ y.ID = c ∧ y.Parent = x.ID) → ∀ i p x c, x ∈ ndss i p l → c ∈ x.Kids → ∃ y, y ∈ ndss i p l ∧ y.ID = c ∧ y.Parent = x.ID
  | [], _, _, _, _, _, h, _ => nomatch h
  | v :: l, h, i, p, x, c, hx, hc => by
    rw [ndss] at hx ⊢
    rcases List.mem_append.1 hx with hx | hx
    · obtain ⟨y, hy, h1⟩ := h v (by simp) i p x c hx hc
      exact ⟨y, by simp [hy], h1⟩
    · obtain ⟨y, hy, h1⟩ := ndss_kid_of l (fun k hk => h k (by simp [hk])) _ p x c hx hc
      exact ⟨y, by simp [hy], h1⟩
theorem nds_kid (v : GView) : ∀ i p x c, x ∈ nds i p v → c ∈ x.Kids → ∃ y, y ∈ nds i p v ∧ y.ID = c ∧ y.Parent = x.ID := by
  induction v using view_ind with
  | h v ih =>
    intro i p x c hx hc
    rw [nds_eq] at hx ⊢
    rcases List.mem_cons.1 hx with rfl | hx
    · obtain ⟨y, hy, h1, h2⟩ := ids_node v.Kids (i + 1) i c hc
      exact ⟨y, by simp [hy], h1, h2⟩
    · obtain ⟨y, hy, h1⟩ := ndss_kid_of v.Kids ih _ _ x c hx hc
      exact ⟨y, by simp [hy], h1⟩
/-- all children, no two alike -/
theorem ndss_kk_of : ∀ (l : List GView), (∀ k, k ∈ l → ∀ i p, ((nds i p k).flatMap GNode.Kids).Nodup ∧ (∀ c, c ∈ (nds i p k).flatMap GNode.Kids → i < c ∧ c < i + vsz k) ∧ ((nds i p k).flatMap GNode.Kids).length + 1 = vsz k) → ∀ s p,
    (ids s l ++ (ndss s p l).flatMap GNode.Kids).Nodup ∧ (∀ c, c ∈ ids s l ++ (ndss s p l).flatMap GNode.Kids → s ≤ c ∧ c < s + vszs l) ∧ (ids s l ++ (ndss s p l).flatMap GNode.Kids).length = vszs l
  | [], _, s, p => ⟨by simp [ids, ndss], fun c hc => by simp [ids, ndss] at hc, rfl⟩
  | v :: l, h, s, p => by
    obtain ⟨a1, a2, a3⟩ := h v (by simp) s p
    obtain ⟨b1, b2, b3⟩ := ndss_kk_of l (fun k hk => h k (by simp [hk])) (s + vsz v) p
    have hz := vsz_pos v
    rw [ids, ndss, vszs, List.flatMap_append, List.cons_append]
    have hp : (ids (s + vsz v) l ++ ((nds s p v).flatMap GNode.Kids ++ (ndss (s + vsz v) p l).flatMap GNode.Kids)).Perm ((nds s p v).flatMap GNode.Kids ++ (ids (s + vsz v) l ++ (ndss (s + vsz v) p l).flatMap GNode.Kids)) := List.perm_append_comm_assoc ..
    have hb : ∀ c, c ∈ (nds s p v).flatMap GNode.Kids ++ (ids (s + vsz v) l ++ (ndss (s + vsz v) p l).flatMap GNode.Kids) → s < c ∧ c < s + (vsz v + vszs l : Nat) := fun c hc => by
      rcases List.mem_append.1 hc with hc | hc
      · have := a2 c hc; omega
      · have := b2 c hc; omega
    refine ⟨?_, fun c hc => ?_, ?_⟩
    · rw [List.nodup_cons]
      refine ⟨fun hm => ?_, ?_⟩
      · have := hb s (hp.mem_iff.1 hm); omega
      · rw [hp.nodup_iff, List.nodup_append]
        refine ⟨a1, b1, fun x hx y hy e => ?_⟩
        have h1 := a2 x hx
        have h2 := b2 y hy
        omega
    · rcases List.mem_cons.1 hc with rfl | hc
      · omega
      · have := hb c (hp.mem_iff.1 hc); omega
    · rw [List.length_cons, hp.length_eq, List.length_append, b3]
      omega
theorem nds_kk (v : GView) : ∀ i p, ((nds i p v).flatMap GNode.Kids).Nodup ∧ (∀ c, c ∈ (nds i p v).flatMap GNode.Kids → i < c ∧ c < i + vsz v) ∧ ((nds i p v).flatMap GNode.Kids).length + 1 = vsz v := by
  induction v using view_ind with
  | h v ih =>
    intro i p
    obtain ⟨b1, b2, b3⟩ := ndss_kk_of v.Kids ih (i + 1) i
    rw [nds_eq, vsz_eq, List.flatMap_cons]
    refine ⟨b1, fun c hc => ?_, ?_⟩
    · have := b2 c hc; omega
    · have e : ((hd i p v).Kids ++ (ndss (i + 1) i v.Kids).flatMap GNode.Kids).length = vszs v.Kids := b3
      rw [e]; omega
/-- the nodes by their numbers -/
def nmap (l : List GNode) : List (Int × GNode) := l.map fun x => (x.ID, x)
theorem nmap_append (a b : List GNode) : nmap (a ++ b) = nmap a ++ nmap b := List.map_append
theorem nmap_look : ∀ {l : List GNode}, (l.map GNode.ID).Nodup → ∀ {x : GNode}, x ∈ l → (nmap l).lookup x.ID = some x
  | [], _, _, h => nomatch h
  | y :: l, hn, x, h => by
    rw [List.map_cons, List.nodup_cons] at hn
    unfold nmap
    rw [List.map_cons, List.lookup_cons]
    rcases List.mem_cons.1 h with rfl | h
    · simp
    · have : (x.ID == y.ID) = false := by
        rw [beq_eq_false_iff_ne]
        intro e
        exact hn.1 (e ▸ List.mem_map.2 ⟨x, h, rfl⟩)
      rw [this]
      exact nmap_look hn.2 h
theorem mput_new {β : Type} {k : Int} {v : β} : ∀ {l : List (Int × β)}, (∀ p, p ∈ l → p.1 ≠ k) → mput k v l = l ++ [(k, v)]
  | [], _ => rfl
  | p :: l, h => by
    have : (p.1 == k) = false := by rw [beq_eq_false_iff_ne]; exact h p (by simp)
    rw [mput, this]
    simp only [Bool.false_eq_true, if_false, List.cons_append]
    rw [mput_new fun q hq => h q (by simp [hq])]
theorem graph_L0 (t : GTree) (j : List (Int × GNode) → Option ((List (Int × GNode)) × Bool)) : ∀ (l pre : List GNode) (n : Nat) (last q s : Int), t.Nodes = pre ++ l → q = pre.length → l.length < n → l.map GNode.ID = iot s l.length → last < s → (∀ x, x ∈ pre → x.ID < s) → (∀ x, x ∈ l → x.ID < t.Next ∧ ((x.Parent == 0) = (x.ID == t.Root))) → t.Nodes.length ≤ 1000 →
    view_graph_L0 t j n last q (nmap pre) = j (nmap t.Nodes)
  | [], pre, n, last, q, s, ht, hq, hn, hi, hl, hp, hx, hz => by
    obtain ⟨n, rfl⟩ : ∃ m, n = m + 1 := ⟨n - 1, by simp at hn; omega⟩
    have hlen : t.Nodes.length = pre.length := by rw [ht]; simp
    rw [view_graph_L0, if_neg (by simp; omega), ht, List.append_nil]
  | x :: l, pre, n, last, q, s, ht, hq, hn, hi, hl, hp, hx, hz => by
    obtain ⟨n, rfl⟩ : ∃ m, n = m + 1 := ⟨n - 1, by simp at hn; omega⟩
    have hlen : t.Nodes.length = pre.length + (l.length + 1) := by rw [ht]; simp
    have hw : IntKind.wrap .i64 (q + 1) = q + 1 := Go.Bm.wrap_small (by omega) (by omega)
    rw [List.map_cons, List.length_cons, iot] at hi
    injection hi with hi1 hi2
    obtain ⟨g1, g2⟩ := hx x (by simp)
    rw [view_graph_L0, if_pos (by simp; omega), idx_at ht hq]
    simp only [Option.bind_some, hw]
    have c1 : decide (x.ID ≤ last) = false := by simp; omega
    have c2 : decide (x.ID ≥ t.Next) = false := by simp; omega
    rw [c1, c2, g2]
    simp only [Bool.or_self, bne_self_eq_false, Bool.false_eq_true, if_false]
    rw [mput_new fun p hp' => by
      obtain ⟨y, hy, rfl⟩ := List.mem_map.1 hp'
      have := hp y hy
      show y.ID ≠ x.ID
      omega]
    rw [show nmap pre ++ [(x.ID, x)] = nmap (pre ++ [x]) from (nmap_append pre [x]).symm]
    exact graph_L0 t j l (pre ++ [x]) n x.ID (q + 1) (s + 1) (by rw [ht]; simp) (by simp; omega) (by simp at hn; omega) hi2 (by omega) (fun y hy => by
      rcases List.mem_append.1 hy with hy | hy
      · have := hp y hy; omega
      · simp only [List.mem_singleton] at hy; subst hy; omega) (fun y hy => hx y (by simp [hy])) hz
def seen (l : List Int) : List (Int × Bool) := l.map fun k => (k, true)
theorem seen_look {k : Int} : ∀ {l : List Int}, k ∉ l → (seen l).lookup k = none
  | [], _ => rfl
  | x :: l, h => by
    have : (k == x) = false := by rw [beq_eq_false_iff_ne]; intro e; exact h (by simp [e])
    unfold seen
    rw [List.map_cons, List.lookup_cons, this]
    exact seen_look fun hk => h (by simp [hk])
theorem graph_L2 (e : GNode) (M : List (Int × GNode)) (j : List (Int × Bool) → Option ((List (Int × GNode)) × Bool)) (t : GTree) (w : Int) (hz : e.Kids.length ≤ 1000) : ∀ (l pre : List Int) (n : Nat) (q : Int) (S : List Int), e.Kids = pre ++ l → q = pre.length → l.length < n → (S ++ l).Nodup → (∀ k, k ∈ l → ∃ y, M.lookup k = some y ∧ y.Parent = e.ID) →
    view_graph_L2 e M j t w n q (seen S) = j (seen (S ++ l))
  | [], pre, n, q, S, ht, hq, hn, hd, hm => by
    obtain ⟨n, rfl⟩ : ∃ m, n = m + 1 := ⟨n - 1, by simp at hn; omega⟩
    have hlen : e.Kids.length = pre.length := by rw [ht]; simp
    rw [view_graph_L2, if_neg (by simp; omega), List.append_nil]
  | k :: l, pre, n, q, S, ht, hq, hn, hd, hm => by
    obtain ⟨n, rfl⟩ : ∃ m, n = m + 1 := ⟨n - 1, by simp at hn; omega⟩
    have hlen : e.Kids.length = pre.length + (l.length + 1) := by rw [ht]; simp
    have hw : IntKind.wrap .i64 (q + 1) = q + 1 := Go.Bm.wrap_small (by omega) (by omega)
    obtain ⟨y, hy, hyp⟩ := hm k (by simp)
    have hks : k ∉ S := fun h => by
      rw [List.nodup_append] at hd
      exact hd.2.2 k h k (by simp) rfl
    rw [view_graph_L2, if_pos (by simp; omega), idx_at ht hq]
    simp only [Option.bind_some, hw, mget, mhas, hy, seen_look hks, Option.getD_some, Option.isSome_some, Option.getD_none, hyp, bne_self_eq_false, Bool.not_true, Bool.or_self, Bool.not_false, gd, List.all_cons, List.all_nil, id, Bool.and_true, if_true, Option.isSome_none, Bool.or_false, show (default : Bool) = false from rfl, Bool.false_eq_true, if_false]
    rw [mput_new fun p hp' => by
      obtain ⟨x, hx, rfl⟩ := List.mem_map.1 hp'
      intro e'
      exact hks (e' ▸ hx)]
    rw [show seen S ++ [(k, true)] = seen (S ++ [k]) from by simp [seen]]
    rw [graph_L2 e M j t w hz l (pre ++ [k]) n (q + 1) (S ++ [k]) (by rw [ht]; simp) (by simp; omega) (by simp at hn; omega) (by simpa using hd) (fun c hc => hm c (by simp [hc]))]
    simp
theorem graph_L1 (t : GTree) (M : List (Int × GNode)) (j : List (Int × Bool) → Option ((List (Int × GNode)) × Bool)) (hz : t.Nodes.length ≤ 1000) : ∀ (l pre : List GNode) (n : Nat) (q : Int) (S : List Int), t.Nodes = pre ++ l → q = pre.length → l.length + 1000 < n → (S ++ l.flatMap GNode.Kids).Nodup → (S ++ l.flatMap GNode.Kids).length ≤ 900 → (∀ x, x ∈ l → ∀ k, k ∈ x.Kids → ∃ y, M.lookup k = some y ∧ y.Parent = x.ID) →
    view_graph_L1 t M j n q (seen S) = j (seen (S ++ l.flatMap GNode.Kids))
  | [], pre, n, q, S, ht, hq, hn, hd, hl, hm => by
    obtain ⟨n, rfl⟩ : ∃ m, n = m + 1 := ⟨n - 1, by simp at hn; omega⟩
    have hlen : t.Nodes.length = pre.length := by rw [ht]; simp
    rw [view_graph_L1, if_neg (by simp; omega)]
    simp
  | x :: l, pre, n, q, S, ht, hq, hn, hd, hl, hm => by
    obtain ⟨n, rfl⟩ : ∃ m, n = m + 1 := ⟨n - 1, by simp at hn; omega⟩
    have hlen : t.Nodes.length = pre.length + (l.length + 1) := by rw [ht]; simp
    have hw : IntKind.wrap .i64 (q + 1) = q + 1 := Go.Bm.wrap_small (by omega) (by omega)
    rw [List.flatMap_cons] at hd hl ⊢
    rw [← List.append_assoc] at hd hl
    have hkl : x.Kids.length ≤ 900 := by simp at hl; omega
    rw [view_graph_L1, if_pos (by simp; omega)]
    unfold withJ
    rw [idx_at ht hq]
    simp only [Option.bind_some, hw]
    rw [graph_L2 x M _ t q (by omega) x.Kids [] n 0 S rfl rfl (by omega) (List.nodup_append.1 hd).1 (fun k hk => hm x (by simp) k hk)]
    rw [graph_L1 t M j hz l (pre ++ [x]) n (q + 1) (S ++ x.Kids) (by rw [ht]; simp) (by simp; omega) (by simp at hn; omega) hd hl (fun y hy => hm y (by simp [hy]))]
    rw [List.append_assoc]
/-- the map knows a view's nodes -/
def Sub (M : List (Int × GNode)) (i p : Int) (v : GView) : Prop := ∀ x, x ∈ nds i p v → M.lookup x.ID = some x
theorem Sub.kid {M : List (Int × GNode)} {i p : Int} {v : GView} (h : Sub M i p v) {pre l : List GView} {k : GView} (hk : v.Kids = pre ++ k :: l) : Sub M (i + 1 + vszs pre) i k := fun x hx => by
  refine h x ?_
  rw [nds_eq, hk]
  have : ∀ (pre : List GView) (s : Int), x ∈ nds (s + vszs pre) i k → x ∈ ndss s i (pre ++ k :: l) := by
    intro pre
    induction pre with
    | nil => intro s hx; rw [List.nil_append, ndss]; rw [vszs] at hx; simp at hx; simp [hx]
    | cons v pre ih =>
      intro s hx
      rw [List.cons_append, ndss]
      rw [vszs] at hx
      refine List.mem_append_right _ (ih (s + vsz v) ?_)
      rw [show s + (vsz v : Int) + (vszs pre : Int) = s + ((vsz v + vszs pre : Nat) : Int) by omega]
      exact hx
  exact List.mem_cons_of_mem _ (this pre (i + 1) hx)
theorem vszs_append (a b : List GView) : vszs (a ++ b) = vszs a + vszs b := by
  induction a with
  | nil => simp [vszs]
  | cons v a ih => rw [List.cons_append, vszs, vszs, ih]; omega
theorem ids_append : ∀ (a b : List GView) (i : Int), ids i (a ++ b) = ids i a ++ ids (i + vszs a) b
  | [], b, i => by simp [ids, vszs]
  | v :: a, b, i => by
    rw [List.cons_append, ids, ids, ids_append a b, vszs, List.cons_append]
    congr 3
    omega
theorem kids_len (l : List GView) : l.length ≤ vszs l := by
  induction l with
  | nil => simp
  | cons v l ih => rw [vszs, List.length_cons]; have := vsz_pos v; omega
theorem pre_loop (M : List (Int × GNode)) (self : List (Int × GNode) → Int → Option (List Int)) (v : GView) (i p : Int) (b : Bool) (j : List Int → Option (List Int)) (hz : vsz v ≤ 1000) (hs : ∀ pre k l, v.Kids = pre ++ k :: l → self M (i + 1 + vszs pre) = some (iot (i + 1 + vszs pre) (vsz k))) : ∀ (l pre : List GView) (n : Nat) (q : Int), v.Kids = pre ++ l → q = pre.length → l.length < n →
    view_preorder_L0 (hd i p v, b) self M j n (iot i (1 + vszs pre)) q = j (iot i (1 + vszs v.Kids))
  | [], pre, n, q, ht, hq, hn => by
    obtain ⟨n, rfl⟩ : ∃ m, n = m + 1 := ⟨n - 1, by simp at hn; omega⟩
    have hlen : (hd i p v).Kids.length = pre.length := by show (ids _ _).length = _; rw [ids_len, ht]; simp
    rw [view_preorder_L0, if_neg (by simp only [hlen]; simp; omega), ht, List.append_nil]
  | k :: l, pre, n, q, ht, hq, hn => by
    obtain ⟨n, rfl⟩ : ∃ m, n = m + 1 := ⟨n - 1, by simp at hn; omega⟩
    have hlen : (hd i p v).Kids.length = pre.length + (l.length + 1) := by show (ids _ _).length = _; rw [ids_len, ht]; simp
    have hkl := kids_len v.Kids
    have hsz := vsz_eq v
    have hv : vszs v.Kids = vszs pre + (vsz k + vszs l) := by rw [ht, vszs_append, vszs]
    have hpl : pre.length ≤ 1000 := by have := kids_len pre; omega
    have hw : IntKind.wrap .i64 (q + 1) = q + 1 := Go.Bm.wrap_small (by omega) (by omega)
    have hix : idx (hd i p v).Kids q = some (i + 1 + vszs pre) := by
      refine idx_at (pre := ids (i + 1) pre) (l := ids (i + 1 + vszs pre + vsz k) l) ?_ (by rw [ids_len]; exact hq)
      show ids (i + 1) v.Kids = _
      rw [ht, ids_append, ids]
    rw [view_preorder_L0, if_pos (by simp only [hlen]; simp; omega), hix]
    simp only [Option.bind_some]
    rw [hs pre k l ht]
    simp only [Option.bind_some, hw]
    rw [apd_eq (by rw [iot_len, iot_len]; omega) (by decide)]
    simp only [Option.bind_some]
    have e : iot i (1 + vszs pre) ++ iot (i + 1 + vszs pre) (vsz k) = iot i (1 + vszs (pre ++ [k])) := by
      rw [vszs_append, vszs, vszs, show 1 + (vszs pre + (vsz k + 0)) = (1 + vszs pre) + vsz k by omega, iot_add (1 + vszs pre) (vsz k) i, show i + ((1 + vszs pre : Nat) : Int) = i + 1 + (vszs pre : Int) by omega]
    rw [e]
    exact pre_loop M self v i p b j hz hs l (pre ++ [k]) n (q + 1) (by rw [ht]; simp) (by simp; omega) (by simp at hn; omega)
theorem preorder_eq (M : List (Int × GNode)) (v : GView) : ∀ (n : Nat) (i p : Int), Sub M i p v → vfu v ≤ n → vsz v ≤ 1000 → view_preorder n M i = some (iot i (vsz v)) := by
  induction v using view_ind with
  | h v ih =>
    intro n i p hM hn hz
    have hfu := vfu_eq v
    have hsz := vsz_eq v
    obtain ⟨n, rfl⟩ : ∃ m, n = m + 1 := ⟨n - 1, by omega⟩
    rw [view_preorder, view_preorder_body]
    unfold withJ
    have hl : M.lookup i = some (hd i p v) := hM (hd i p v) (by rw [nds_eq]; simp)
    simp only [mget, mhas, hl, Option.getD_some, Option.isSome_some, Option.bind_some]
    have := pre_loop M (fun a0 a1 => view_preorder n a0 a1) v i p true (fun v13 => some v13) hz (fun pre k l hk => by
      have hmem : k ∈ v.Kids := by rw [hk]; simp
      exact ih k hmem n _ i (hM.kid hk) (by have := vfus_mem hmem; omega) (by have := vszs_mem hmem; omega)) v.Kids [] n 0 rfl rfl (by omega)
    rw [show iot i (1 + vszs []) = [i] from rfl] at this
    exact this.trans (by rw [hsz])
theorem desc_loop (M : List (Int × GNode)) (self : List (Int × GNode) → Int → Option GView) (v : GView) (i p : Int) (b : Bool) (j : List GView → Option GView) (hz : vsz v ≤ 1000) (hs : ∀ pre k l, v.Kids = pre ++ k :: l → self M (i + 1 + vszs pre) = some k) : ∀ (l pre : List GView) (n : Nat) (q : Int), v.Kids = pre ++ l → q = pre.length → l.length < n →
    view_described_L0 (hd i p v, b) self M j n q pre = j v.Kids
  | [], pre, n, q, ht, hq, hn => by
    obtain ⟨n, rfl⟩ : ∃ m, n = m + 1 := ⟨n - 1, by simp at hn; omega⟩
    have hlen : (hd i p v).Kids.length = pre.length := by show (ids _ _).length = _; rw [ids_len, ht]; simp
    rw [view_described_L0, if_neg (by simp only [hlen]; simp; omega), ht, List.append_nil]
  | k :: l, pre, n, q, ht, hq, hn => by
    obtain ⟨n, rfl⟩ : ∃ m, n = m + 1 := ⟨n - 1, by simp at hn; omega⟩
    have hlen : (hd i p v).Kids.length = pre.length + (l.length + 1) := by show (ids _ _).length = _; rw [ids_len, ht]; simp
    have hkl := kids_len v.Kids
    have hsz := vsz_eq v
    have hv : vszs v.Kids = vszs pre + (vsz k + vszs l) := by rw [ht, vszs_append, vszs]
    have hpl : pre.length ≤ 1000 := by have := kids_len pre; omega
    have hw : IntKind.wrap .i64 (q + 1) = q + 1 := Go.Bm.wrap_small (by omega) (by omega)
    have hix : idx (hd i p v).Kids q = some (i + 1 + vszs pre) := by
      refine idx_at (pre := ids (i + 1) pre) (l := ids (i + 1 + vszs pre + vsz k) l) ?_ (by rw [ids_len]; exact hq)
      show ids (i + 1) v.Kids = _
      rw [ht, ids_append, ids]
    rw [view_described_L0, if_pos (by simp only [hlen]; simp; omega), hix]
    simp only [Option.bind_some]
    rw [hs pre k l ht]
    simp only [Option.bind_some, hw]
    rw [apd_eq (by simp; omega) (by decide)]
    simp only [Option.bind_some]
    exact desc_loop M self v i p b j hz hs l (pre ++ [k]) n (q + 1) (by rw [ht]; simp) (by simp; omega) (by simp at hn; omega)
theorem described_eq (M : List (Int × GNode)) (v : GView) : ∀ (n : Nat) (i p : Int), Sub M i p v → vfu v ≤ n → vsz v ≤ 1000 → view_described n M i = some v := by
  induction v using view_ind with
  | h v ih =>
    intro n i p hM hn hz
    have hfu := vfu_eq v
    have hsz := vsz_eq v
    obtain ⟨n, rfl⟩ : ∃ m, n = m + 1 := ⟨n - 1, by omega⟩
    rw [view_described, view_described_body]
    unfold withJ
    have hl : M.lookup i = some (hd i p v) := hM (hd i p v) (by rw [nds_eq]; simp)
    simp only [mget, mhas, hl, Option.getD_some, Option.isSome_some, Option.bind_some]
    exact (desc_loop M (fun a0 a1 => view_described n a0 a1) v i p true _ hz (fun pre k l hk => by
      have hmem : k ∈ v.Kids := by rw [hk]; simp
      exact ih k hmem n _ i (hM.kid hk) (by have := vfus_mem hmem; omega) (by have := vszs_mem hmem; omega)) v.Kids [] n 0 rfl rfl (by omega)).trans (by cases v; rfl)
/-- a tree that was built of a view -/
structure TreeOf (t : GTree) (v : GView) : Prop where
  root : 1 ≤ t.Root ∧ t.Root ≤ 1000000000
  next : t.Next = t.Root + vsz v
  nodes : t.Nodes = nds t.Root 0 v
  size : vsz v ≤ 400
theorem TreeOf.nodup {t : GTree} {v : GView} (h : TreeOf t v) : (t.Nodes.map GNode.ID).Nodup := by rw [h.nodes, nds_ids]; exact iot_nodup _ _
theorem TreeOf.sub {t : GTree} {v : GView} (h : TreeOf t v) : Sub (nmap t.Nodes) t.Root 0 v := fun x hx => nmap_look h.nodup (by rw [h.nodes]; exact hx)
theorem graph_eq {t : GTree} {v : GView} (h : TreeOf t v) (n : Nat) (hn : vfu v + 3000 ≤ n) : view_graph n t = some (nmap t.Nodes, true) := by
  obtain ⟨r1, r2⟩ := h.root
  have hnx := h.next
  have hsz := h.size
  have hp := vsz_pos v
  have hlen : t.Nodes.length = vsz v := by rw [h.nodes, nds_len]
  unfold view_graph
  have c : ((((decide (t.Next < 2)) || (decide (t.Next > 1099511627776))) || (decide ((List.length t.Nodes : Int) < 1))) || (decide ((List.length t.Nodes : Int) > 400))) = false := by
    simp only [Bool.or_eq_false_iff, decide_eq_false_iff_not]
    omega
  rw [c]
  simp only [Bool.false_eq_true, if_false]
  unfold withJ
  have g := graph_L0 t (fun v10 => (some (mget t.Root v10, mhas t.Root v10)).bind fun (y11 : (GNode × Bool)) => (if (!y11.2) = true then some (([] : List (Int × GNode)), false) else (fun (j12 : List (Int × Bool) → Option ((List (Int × GNode)) × Bool)) => view_graph_L1 t v10 j12 n 0 (mput t.Root true ([] : List (Int × Bool)))) fun (v43 : List (Int × Bool)) => (if ((List.length v43 : Int) != (List.length v10 : Int)) = true then some (([] : List (Int × GNode)), false) else (view_preorder n v10 t.Root).bind fun (y44 : (List Int)) => some (v10, ((List.length y44 : Int) == (List.length v10 : Int)))))) t.Nodes [] n 0 0 t.Root rfl rfl (by omega) (by rw [hlen, h.nodes, nds_ids]) (by omega) (fun x hx => nomatch hx) (fun x hx => by
    rw [h.nodes] at hx
    have h1 := iot_mem.1 (nds_ids v t.Root 0 ▸ List.mem_map.2 ⟨x, hx, rfl⟩ : x.ID ∈ iot t.Root (vsz v))
    refine ⟨by omega, ?_⟩
    rcases nds_par v t.Root 0 x hx with ⟨a, b⟩ | ⟨a, b, _⟩
    · rw [a, b]; simp
    · have e1 : (x.Parent == 0) = false := by rw [beq_eq_false_iff_ne]; omega
      have e2 : (x.ID == t.Root) = false := by rw [beq_eq_false_iff_ne]; omega
      rw [e1, e2]) (by omega)
  refine (show _ = _ from g).trans ?_
  have hl : (nmap t.Nodes).lookup t.Root = some (hd t.Root 0 v) := h.sub (hd t.Root 0 v) (by rw [nds_eq]; simp)
  simp only [mget, mhas, hl, Option.getD_some, Option.isSome_some, Option.bind_some, Bool.not_true, Bool.false_eq_true, if_false]
  obtain ⟨k1, k2, k3⟩ := nds_kk v t.Root 0
  have hnd : ([t.Root] ++ t.Nodes.flatMap GNode.Kids).Nodup := by
    rw [h.nodes, List.singleton_append, List.nodup_cons]
    exact ⟨fun hm => by have := k2 _ hm; omega, k1⟩
  have hll : ([t.Root] ++ t.Nodes.flatMap GNode.Kids).length = vsz v := by
    rw [h.nodes, List.singleton_append, List.length_cons]; omega
  rw [show mput t.Root true ([] : List (Int × Bool)) = seen [t.Root] from rfl]
  rw [graph_L1 t (nmap t.Nodes) _ (by omega) t.Nodes [] n 0 [t.Root] rfl rfl (by omega) hnd (by omega) (fun x hx k hk => by
    rw [h.nodes] at hx
    obtain ⟨y, hy, e1, e2⟩ := nds_kid v t.Root 0 x k hx hk
    exact ⟨y, by rw [← e1]; exact h.sub y hy, e2⟩)]
  have e1 : (seen ([t.Root] ++ t.Nodes.flatMap GNode.Kids)).length = vsz v := by rw [seen, List.length_map, hll]
  have e2 : (nmap t.Nodes).length = vsz v := by rw [nmap, List.length_map, hlen]
  simp only [e1, e2, bne_self_eq_false, Bool.false_eq_true, if_false]
  rw [preorder_eq (nmap t.Nodes) v n t.Root 0 h.sub (by omega) (by omega)]
  simp only [Option.bind_some, iot_len, beq_self_eq_true]
theorem examine_eq {t : GTree} {v : GView} (h : TreeOf t v) (n : Nat) (hn : vfu v + 3000 ≤ n) : view_examine n t = (view_Validate n v).bind fun y => some (nmap t.Nodes, v, y) := by
  unfold view_examine
  rw [graph_eq h n hn]
  simp only [Option.bind_some, Bool.not_true, Bool.false_eq_true, if_false]
  rw [described_eq (nmap t.Nodes) v n t.Root 0 h.sub (by omega) (by have := h.size; omega)]
  rfl
end Go.Proofs.YtojkihhnioeggaaDoor.S
