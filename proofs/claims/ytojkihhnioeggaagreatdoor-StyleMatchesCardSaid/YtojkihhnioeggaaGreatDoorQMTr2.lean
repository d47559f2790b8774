import Derived.Test.YtojkihhnioeggaaGreatDoorQMTr1
import Derived.WalkKit
import Derived.WalkSpells
import Derived.WalkLawsBesides
import Derived.Deep.QuietTactic
import Derived.BigQuiet
import Derived.BigRegion
import Derived.Lib.Hide
import Derived.Deep.RegionWith
set_option linter.unusedSimpArgs false
set_option linter.unusedVariables false
set_option linter.unusedSimpArgs false
set_option linter.unusedVariables false
namespace Go.Proofs.YtojkihhnioeggaaGreatDoor.S
open Go Go.Bm
theorem pZ {α : Type} {pre l : List α} {x : α} {q : Int} {L : List α} (hL : L = pre ++ x :: l) (hq : q = pre.length) : idx L q = some x := by
 unfold idx
 rw [if_pos (by omega), hq, Int.toNat_natCast, hL, List.getElem?_append_right (Nat.le_refl _), Nat.sub_self]
 rfl
theorem Hl {α : Type} {b : Nat} {l els : List α} (h : l.length + els.length ≤ 100000) (hb : b ≤ 1000) : pE b l els = some (l ++ els) := by
 obtain ⟨r, hr, rfl⟩ := dY h hb
 exact hr
def qQ : Int → Nat → List Int
 | _, 0 => []
 | i, n + 1 => i :: qQ (i + 1) n
theorem Bp : ∀ (n m : Nat) (i : Int), qQ i (n + m) = qQ i n ++ qQ (i + n) m
 | 0, m, i => by simp [qQ]
 | n + 1, m, i => by
  rw [show n + 1 + m = (n + m) + 1 by omega, qQ, qQ, Bp n m (i + 1), List.cons_append]
  congr 3
  omega
theorem vH : ∀ (n : Nat) (i : Int), (qQ i n).length = n
 | 0, _ => rfl
 | n + 1, i => by rw [qQ, List.length_cons, vH]
theorem Ay : ∀ {n : Nat} {i x : Int}, x ∈ qQ i n ↔ i ≤ x ∧ x < i + n
 | 0, i, x => by simp [qQ]
 | n + 1, i, x => by
  rw [qQ, List.mem_cons, Ay]
  constructor
  ·rintro (h | h) <;> omega
  ·intro h
   by_cases e : x = i
   ·exact .inl e
   ·exact .inr (by omega)
theorem Fy : ∀ (n : Nat) (i : Int), (qQ i n).Nodup
 | 0, _ => .nil
 | n + 1, i => by
  rw [qQ, List.nodup_cons]
  exact ⟨fun h => by have := (Ay.1 h).1; omega, Fy n _⟩
theorem zU : ∀ (l : List aL), (∀ k, k ∈ l → ∀ i p, (uH i p k).map aR.ID = qQ i (gP k)) → ∀ i p, (kL i p l).map aR.ID = qQ i (bX l)
 | [], _, _, _ => rfl
 | v :: l, h, i, p => by
  rw [kL, bX, List.map_append, h v (by simp), zU l (fun k hk => h k (by simp [hk])), Bp]
theorem Bh (v : aL) : ∀ i p, (uH i p v).map aR.ID = qQ i (gP v) := by
 induction v using jY with
 | h v ih =>
  intro i p
  rw [mB, lL, List.map_cons, zU v.Kids ih, Nat.add_comm, qQ]
  rfl
theorem zX : ∀ (l : List aL), (∀ k, k ∈ l → ∀ i p x, x ∈ uH i p k → (x.ID = i ∧ x.Parent = p) ∨ (i < x.ID ∧ i ≤ x.Parent ∧ x.Parent < x.ID)) → ∀ i p x, x ∈ kL i p l → i ≤ x.ID ∧ (x.Parent = p ∨ (i ≤ x.Parent ∧ x.Parent < x.ID))
 | [], _, _, _, _, h => nomatch h
 | v :: l, h, i, p, x, hx => by
  rw [kL, List.mem_append] at hx
  rcases hx with hx | hx
  ·rcases h v (by simp) i p x hx with ⟨a, b⟩ | ⟨a, b, c⟩
   ·exact ⟨by omega, .inl b⟩
   ·exact ⟨by omega, .inr ⟨b, c⟩⟩
  ·obtain ⟨a, b⟩ := zX l (fun k hk => h k (by simp [hk])) _ p x hx
   refine ⟨by omega, ?_⟩
   rcases b with b | ⟨b, c⟩
   ·exact .inl b
   ·exact .inr ⟨by omega, c⟩
theorem Ny (v : aL) : ∀ i p x, x ∈ uH i p v → (x.ID = i ∧ x.Parent = p) ∨ (i < x.ID ∧ i ≤ x.Parent ∧ x.Parent < x.ID) := by
 induction v using jY with
 | h v ih =>
  intro i p x hx
  rw [mB, List.mem_cons] at hx
  rcases hx with rfl | hx
  ·exact .inl ⟨rfl, rfl⟩
  ·obtain ⟨a, b⟩ := zX v.Kids ih _ _ x hx
   rcases b with b | ⟨b, c⟩
   ·exact .inr ⟨by omega, by omega, by omega⟩
   ·exact .inr ⟨by omega, by omega, c⟩
theorem Jd : ∀ (l : List aL) (s p k : Int), k ∈ qW s l → ∃ y, y ∈ kL s p l ∧ y.ID = k ∧ y.Parent = p
 | [], _, _, _, h => nomatch h
 | v :: l, s, p, k, h => by
  rw [qW, List.mem_cons] at h
  rw [kL]
  rcases h with rfl | h
  ·exact ⟨hd k p v, by rw [mB]; simp, rfl, rfl⟩
  ·obtain ⟨y, hy, h1, h2⟩ := Jd l _ p k h
   exact ⟨y, by simp [hy], h1, h2⟩
theorem Ac : ∀ (l : List aL), (∀ k, k ∈ l → ∀ i p x c, x ∈ uH i p k → c ∈ x.Kids → ∃ y, y ∈ uH i p k ∧ y.ID = c ∧ y.Parent = x.ID) → ∀ i p x c, x ∈ kL i p l → c ∈ x.Kids → ∃ y, y ∈ kL i p l ∧ y.ID = c ∧ y.Parent = x.ID
 | [], _, _, _, _, _, h, _ => nomatch h
 | v :: l, h, i, p, x, c, hx, hc => by
  rw [kL] at hx ⊢
  rcases List.mem_append.1 hx with hx | hx
  ·obtain ⟨y, hy, h1⟩ := h v (by simp) i p x c hx hc
   exact ⟨y, by simp [hy], h1⟩
  ·obtain ⟨y, hy, h1⟩ := Ac l (fun k hk => h k (by simp [hk])) _ p x c hx hc
   exact ⟨y, by simp [hy], h1⟩
theorem Nd (v : aL) : ∀ i p x c, x ∈ uH i p v → c ∈ x.Kids → ∃ y, y ∈ uH i p v ∧ y.ID = c ∧ y.Parent = x.ID := by
 induction v using jY with
 | h v ih =>
  intro i p x c hx hc
  rw [mB] at hx ⊢
  rcases List.mem_cons.1 hx with rfl | hx
  ·obtain ⟨y, hy, h1, h2⟩ := Jd v.Kids (i + 1) i c hc
   exact ⟨y, by simp [hy], h1, h2⟩
  ·obtain ⟨y, hy, h1⟩ := Ac v.Kids ih _ _ x c hx hc
   exact ⟨y, by simp [hy], h1⟩
theorem Ek : ∀ (l : List aL), (∀ k, k ∈ l → ∀ i p, ((uH i p k).flatMap aR.Kids).Nodup ∧ (∀ c, c ∈ (uH i p k).flatMap aR.Kids → i < c ∧ c < i + gP k) ∧ ((uH i p k).flatMap aR.Kids).length + 1 = gP k) → ∀ s p,
  (qW s l ++ (kL s p l).flatMap aR.Kids).Nodup ∧ (∀ c, c ∈ qW s l ++ (kL s p l).flatMap aR.Kids → s ≤ c ∧ c < s + bX l) ∧ (qW s l ++ (kL s p l).flatMap aR.Kids).length = bX l
 | [], _, s, p => ⟨by simp [qW, kL], fun c hc => by simp [qW, kL] at hc, rfl⟩
 | v :: l, h, s, p => by
  obtain ⟨a1, a2, a3⟩ := h v (by simp) s p
  obtain ⟨b1, b2, b3⟩ := Ek l (fun k hk => h k (by simp [hk])) (s + gP v) p
  have hz := sH v
  rw [qW, kL, bX, List.flatMap_append, List.cons_append]
  have hp : (qW (s + gP v) l ++ ((uH s p v).flatMap aR.Kids ++ (kL (s + gP v) p l).flatMap aR.Kids)).Perm ((uH s p v).flatMap aR.Kids ++ (qW (s + gP v) l ++ (kL (s + gP v) p l).flatMap aR.Kids)) := List.perm_append_comm_assoc ..
  have hb : ∀ c, c ∈ (uH s p v).flatMap aR.Kids ++ (qW (s + gP v) l ++ (kL (s + gP v) p l).flatMap aR.Kids) → s < c ∧ c < s + (gP v + bX l : Nat) := fun c hc => by
   rcases List.mem_append.1 hc with hc | hc
   ·have := a2 c hc; omega
   ·have := b2 c hc; omega
  refine ⟨?_, fun c hc => ?_, ?_⟩
  ·rw [List.nodup_cons]
   refine ⟨fun hm => ?_, ?_⟩
   ·have := hb s (hp.mem_iff.1 hm); omega
   ·rw [hp.nodup_iff, List.nodup_append]
    refine ⟨a1, b1, fun x hx y hy e => ?_⟩
    have h1 := a2 x hx
    have h2 := b2 y hy
    omega
  ·rcases List.mem_cons.1 hc with rfl | hc
   ·omega
   ·have := hb c (hp.mem_iff.1 hc); omega
  ·rw [List.length_cons, hp.length_eq, List.length_append, b3]
   omega
theorem Lr (v : aL) : ∀ i p, ((uH i p v).flatMap aR.Kids).Nodup ∧ (∀ c, c ∈ (uH i p v).flatMap aR.Kids → i < c ∧ c < i + gP v) ∧ ((uH i p v).flatMap aR.Kids).length + 1 = gP v := by
 induction v using jY with
 | h v ih =>
  intro i p
  obtain ⟨b1, b2, b3⟩ := Ek v.Kids ih (i + 1) i
  rw [mB, lL, List.flatMap_cons]
  refine ⟨b1, fun c hc => ?_, ?_⟩
  ·have := b2 c hc; omega
  ·have e : ((hd i p v).Kids ++ (kL (i + 1) i v.Kids).flatMap aR.Kids).length = bX v.Kids := b3
   rw [e]; omega
def lM (l : List aR) : List (Int × aR) := l.map fun x => (x.ID, x)
theorem Aa (a b : List aR) : lM (a ++ b) = lM a ++ lM b := List.map_append
theorem mM : ∀ {l : List aR}, (l.map aR.ID).Nodup → ∀ {x : aR}, x ∈ l → (lM l).lookup x.ID = some x
 | [], _, _, h => nomatch h
 | y :: l, hn, x, h => by
  rw [List.map_cons, List.nodup_cons] at hn
  unfold lM
  rw [List.map_cons, List.lookup_cons]
  rcases List.mem_cons.1 h with rfl | h
  ·simp
  ·have : (x.ID == y.ID) = false := by
    rw [beq_eq_false_iff_ne]
    intro e
    exact hn.1 (e ▸ List.mem_map.2 ⟨x, h, rfl⟩)
   rw [this]
   exact mM hn.2 h
theorem vB {β : Type} {k : Int} {v : β} : ∀ {l : List (Int × β)}, (∀ p, p ∈ l → p.1 ≠ k) → iP k v l = l ++ [(k, v)]
 | [], _ => rfl
 | p :: l, h => by
  have : (p.1 == k) = false := by rw [beq_eq_false_iff_ne]; exact h p (by simp)
  rw [iP, this]
  simp only [Bool.false_eq_true, if_false, List.cons_append]
  rw [vB fun q hq => h q (by simp [hq])]
theorem Kr (t : bC) (j : List (Int × aR) → Option ((List (Int × aR)) × Bool)) : ∀ (l pre : List aR) (n : Nat) (last q s : Int), t.Nodes = pre ++ l → q = pre.length → l.length < n → l.map aR.ID = qQ s l.length → last < s → (∀ x, x ∈ pre → x.ID < s) → (∀ x, x ∈ l → x.ID < t.Next ∧ ((x.Parent == 0) = (x.ID == t.Root))) → t.Nodes.length ≤ 1000 →
  iW t j n last q (lM pre) = j (lM t.Nodes)
 | [], pre, n, last, q, s, ht, hq, hn, hi, hl, hp, hx, hz => by
  obtain ⟨n, rfl⟩ : ∃ m, n = m + 1 := ⟨n - 1, by simp at hn; omega⟩
  have hlen : t.Nodes.length = pre.length := by rw [ht]; simp
  rw [iW, if_neg (by simp; omega), ht, List.append_nil]
 | x :: l, pre, n, last, q, s, ht, hq, hn, hi, hl, hp, hx, hz => by
  obtain ⟨n, rfl⟩ : ∃ m, n = m + 1 := ⟨n - 1, by simp at hn; omega⟩
  have hlen : t.Nodes.length = pre.length + (l.length + 1) := by rw [ht]; simp
  have hw : IntKind.wrap .i64 (q + 1) = q + 1 := Go.Bm.bB (by omega) (by omega)
  rw [List.map_cons, List.length_cons, qQ] at hi
  injection hi with hi1 hi2
  obtain ⟨g1, g2⟩ := hx x (by simp)
  rw [iW, if_pos (by simp; omega), pZ ht hq]
  simp only [Option.bind_some, hw]
  have c1 : decide (x.ID ≤ last) = false := by simp; omega
  have c2 : decide (x.ID ≥ t.Next) = false := by simp; omega
  rw [c1, c2, g2]
  simp only [Bool.or_self, bne_self_eq_false, Bool.false_eq_true, if_false]
  rw [vB fun p hp' => by
   obtain ⟨y, hy, rfl⟩ := List.mem_map.1 hp'
   have := hp y hy
   show y.ID ≠ x.ID
   omega]
  rw [show lM pre ++ [(x.ID, x)] = lM (pre ++ [x]) from (Aa pre [x]).symm]
  exact Kr t j l (pre ++ [x]) n x.ID (q + 1) (s + 1) (by rw [ht]; simp) (by simp; omega) (by simp at hn; omega) hi2 (by omega) (fun y hy => by
   rcases List.mem_append.1 hy with hy | hy
   ·have := hp y hy; omega
   ·simp only [List.mem_singleton] at hy; subst hy; omega) (fun y hy => hx y (by simp [hy])) hz
def An (l : List Int) : List (Int × Bool) := l.map fun k => (k, true)
theorem Gb {k : Int} : ∀ {l : List Int}, k ∉ l → (An l).lookup k = none
 | [], _ => rfl
 | x :: l, h => by
  have : (k == x) = false := by rw [beq_eq_false_iff_ne]; intro e; exact h (by simp [e])
  unfold An
  rw [List.map_cons, List.lookup_cons, this]
  exact Gb fun hk => h (by simp [hk])
theorem Js (e : aR) (M : List (Int × aR)) (j : List (Int × Bool) → Option ((List (Int × aR)) × Bool)) (t : bC) (w : Int) (hz : e.Kids.length ≤ 1000) : ∀ (l pre : List Int) (n : Nat) (q : Int) (S : List Int), e.Kids = pre ++ l → q = pre.length → l.length < n → (S ++ l).Nodup → (∀ k, k ∈ l → ∃ y, M.lookup k = some y ∧ y.Parent = e.ID) →
  iO e M j t w n q (An S) = j (An (S ++ l))
 | [], pre, n, q, S, ht, hq, hn, hd, hm => by
  obtain ⟨n, rfl⟩ : ∃ m, n = m + 1 := ⟨n - 1, by simp at hn; omega⟩
  have hlen : e.Kids.length = pre.length := by rw [ht]; simp
  rw [iO, if_neg (by simp; omega), List.append_nil]
 | k :: l, pre, n, q, S, ht, hq, hn, hd, hm => by
  obtain ⟨n, rfl⟩ : ∃ m, n = m + 1 := ⟨n - 1, by simp at hn; omega⟩
  have hlen : e.Kids.length = pre.length + (l.length + 1) := by rw [ht]; simp
  have hw : IntKind.wrap .i64 (q + 1) = q + 1 := Go.Bm.bB (by omega) (by omega)
  obtain ⟨y, hy, hyp⟩ := hm k (by simp)
  have hks : k ∉ S := fun h => by
   rw [List.nodup_append] at hd
   exact hd.2.2 k h k (by simp) rfl
  rw [iO, if_pos (by simp; omega), pZ ht hq]
  simp only [Option.bind_some, hw, gN, jF, hy, Gb hks, Option.getD_some, Option.isSome_some, Option.getD_none, hyp, bne_self_eq_false, Bool.not_true, Bool.or_self, Bool.not_false, gd, List.all_cons, List.all_nil, id, Bool.and_true, if_true, Option.isSome_none, Bool.or_false, show (default : Bool) = false from rfl, Bool.false_eq_true, if_false]
  rw [vB fun p hp' => by
   obtain ⟨x, hx, rfl⟩ := List.mem_map.1 hp'
   intro e'
   exact hks (e' ▸ hx)]
  rw [show An S ++ [(k, true)] = An (S ++ [k]) from by simp [An]]
  rw [Js e M j t w hz l (pre ++ [k]) n (q + 1) (S ++ [k]) (by rw [ht]; simp) (by simp; omega) (by simp at hn; omega) (by simpa using hd) (fun c hc => hm c (by simp [hc]))]
  simp
theorem La (t : bC) (M : List (Int × aR)) (j : List (Int × Bool) → Option ((List (Int × aR)) × Bool)) (hz : t.Nodes.length ≤ 1000) : ∀ (l pre : List aR) (n : Nat) (q : Int) (S : List Int), t.Nodes = pre ++ l → q = pre.length → l.length + 1000 < n → (S ++ l.flatMap aR.Kids).Nodup → (S ++ l.flatMap aR.Kids).length ≤ 900 → (∀ x, x ∈ l → ∀ k, k ∈ x.Kids → ∃ y, M.lookup k = some y ∧ y.Parent = x.ID) →
  gS t M j n q (An S) = j (An (S ++ l.flatMap aR.Kids))
 | [], pre, n, q, S, ht, hq, hn, hd, hl, hm => by
  obtain ⟨n, rfl⟩ : ∃ m, n = m + 1 := ⟨n - 1, by simp at hn; omega⟩
  have hlen : t.Nodes.length = pre.length := by rw [ht]; simp
  rw [gS, if_neg (by simp; omega)]
  simp
 | x :: l, pre, n, q, S, ht, hq, hn, hd, hl, hm => by
  obtain ⟨n, rfl⟩ : ∃ m, n = m + 1 := ⟨n - 1, by simp at hn; omega⟩
  have hlen : t.Nodes.length = pre.length + (l.length + 1) := by rw [ht]; simp
  have hw : IntKind.wrap .i64 (q + 1) = q + 1 := Go.Bm.bB (by omega) (by omega)
  rw [List.flatMap_cons] at hd hl ⊢
  rw [← List.append_assoc] at hd hl
  have hkl : x.Kids.length ≤ 900 := by simp at hl; omega
  rw [gS, if_pos (by simp; omega)]
  unfold aV
  rw [pZ ht hq]
  simp only [Option.bind_some, hw]
  rw [Js x M _ t q (by omega) x.Kids [] n 0 S rfl rfl (by omega) (List.nodup_append.1 hd).1 (fun k hk => hm x (by simp) k hk)]
  rw [La t M j hz l (pre ++ [x]) n (q + 1) (S ++ x.Kids) (by rw [ht]; simp) (by simp; omega) (by simp at hn; omega) hd hl (fun y hy => hm y (by simp [hy]))]
  rw [List.append_assoc]
def Zv (M : List (Int × aR)) (i p : Int) (v : aL) : Prop := ∀ x, x ∈ uH i p v → M.lookup x.ID = some x
theorem Zv.kid {M : List (Int × aR)} {i p : Int} {v : aL} (h : Zv M i p v) {pre l : List aL} {k : aL} (hk : v.Kids = pre ++ k :: l) : Zv M (i + 1 + bX pre) i k := fun x hx => by
 refine h x ?_
 rw [mB, hk]
 have : ∀ (pre : List aL) (s : Int), x ∈ uH (s + bX pre) i k → x ∈ kL s i (pre ++ k :: l) := by
  intro pre
  induction pre with
  | nil => intro s hx; rw [List.nil_append, kL]; rw [bX] at hx; simp at hx; simp [hx]
  | cons v pre ih =>
   intro s hx
   rw [List.cons_append, kL]
   rw [bX] at hx
   refine List.mem_append_right _ (ih (s + gP v) ?_)
   rw [show s + (gP v : Int) + (bX pre : Int) = s + ((gP v + bX pre : Nat) : Int) by omega]
   exact hx
 exact List.mem_cons_of_mem _ (this pre (i + 1) hx)
theorem kT (a b : List aL) : bX (a ++ b) = bX a + bX b := by
 induction a with
 | nil => simp [bX]
 | cons v a ih => rw [List.cons_append, bX, bX, ih]; omega
theorem sO : ∀ (a b : List aL) (i : Int), qW i (a ++ b) = qW i a ++ qW (i + bX a) b
 | [], b, i => by simp [qW, bX]
 | v :: a, b, i => by
  rw [List.cons_append, qW, qW, sO a b, bX, List.cons_append]
  congr 3
  omega
theorem nU (l : List aL) : l.length ≤ bX l := by
 induction l with
 | nil => simp
 | cons v l ih => rw [bX, List.length_cons]; have := sH v; omega
theorem Kg (M : List (Int × aR)) (self : List (Int × aR) → Int → Option (List Int)) (v : aL) (i p : Int) (b : Bool) (j : List Int → Option (List Int)) (hz : gP v ≤ 1000) (hs : ∀ pre k l, v.Kids = pre ++ k :: l → self M (i + 1 + bX pre) = some (qQ (i + 1 + bX pre) (gP k))) : ∀ (l pre : List aL) (n : Nat) (q : Int), v.Kids = pre ++ l → q = pre.length → l.length < n →
  fQ (hd i p v, b) self M j n (qQ i (1 + bX pre)) q = j (qQ i (1 + bX v.Kids))
 | [], pre, n, q, ht, hq, hn => by
  obtain ⟨n, rfl⟩ : ∃ m, n = m + 1 := ⟨n - 1, by simp at hn; omega⟩
  have hlen : (hd i p v).Kids.length = pre.length := by show (qW _ _).length = _; rw [oZ, ht]; simp
  rw [fQ, if_neg (by simp only [hlen]; simp; omega), ht, List.append_nil]
 | k :: l, pre, n, q, ht, hq, hn => by
  obtain ⟨n, rfl⟩ : ∃ m, n = m + 1 := ⟨n - 1, by simp at hn; omega⟩
  have hlen : (hd i p v).Kids.length = pre.length + (l.length + 1) := by show (qW _ _).length = _; rw [oZ, ht]; simp
  have hkl := nU v.Kids
  have hsz := lL v
  have hv : bX v.Kids = bX pre + (gP k + bX l) := by rw [ht, kT, bX]
  have hpl : pre.length ≤ 1000 := by have := nU pre; omega
  have hw : IntKind.wrap .i64 (q + 1) = q + 1 := Go.Bm.bB (by omega) (by omega)
  have hix : idx (hd i p v).Kids q = some (i + 1 + bX pre) := by
   refine pZ (pre := qW (i + 1) pre) (l := qW (i + 1 + bX pre + gP k) l) ?_ (by rw [oZ]; exact hq)
   show qW (i + 1) v.Kids = _
   rw [ht, sO, qW]
  rw [fQ, if_pos (by simp only [hlen]; simp; omega), hix]
  simp only [Option.bind_some]
  rw [hs pre k l ht]
  simp only [Option.bind_some, hw]
  rw [Hl (by rw [vH, vH]; omega) (by decide)]
  simp only [Option.bind_some]
  have e : qQ i (1 + bX pre) ++ qQ (i + 1 + bX pre) (gP k) = qQ i (1 + bX (pre ++ [k])) := by
   rw [kT, bX, bX, show 1 + (bX pre + (gP k + 0)) = (1 + bX pre) + gP k by omega, Bp (1 + bX pre) (gP k) i, show i + ((1 + bX pre : Nat) : Int) = i + 1 + (bX pre : Int) by omega]
  rw [e]
  exact Kg M self v i p b j hz hs l (pre ++ [k]) n (q + 1) (by rw [ht]; simp) (by simp; omega) (by simp at hn; omega)
theorem Kp (M : List (Int × aR)) (v : aL) : ∀ (n : Nat) (i p : Int), Zv M i p v → Fi v ≤ n → gP v ≤ 1000 → eV n M i = some (qQ i (gP v)) := by
 induction v using jY with
 | h v ih =>
  intro n i p hM hn hz
  have hfu := wT v
  have hsz := lL v
  obtain ⟨n, rfl⟩ : ∃ m, n = m + 1 := ⟨n - 1, by omega⟩
  rw [eV, jR]
  unfold aV
  have hl : M.lookup i = some (hd i p v) := hM (hd i p v) (by rw [mB]; simp)
  simp only [gN, jF, hl, Option.getD_some, Option.isSome_some, Option.bind_some]
  have := Kg M (fun a0 a1 => eV n a0 a1) v i p true (fun v13 => some v13) hz (fun pre k l hk => by
   have hmem : k ∈ v.Kids := by rw [hk]; simp
   exact ih k hmem n _ i (hM.kid hk) (by have := qE hmem; omega) (by have := rQ hmem; omega)) v.Kids [] n 0 rfl rfl (by omega)
  rw [show qQ i (1 + bX []) = [i] from rfl] at this
  exact this.trans (by rw [hsz])
theorem Gn (M : List (Int × aR)) (self : List (Int × aR) → Int → Option aL) (v : aL) (i p : Int) (b : Bool) (j : List aL → Option aL) (hz : gP v ≤ 1000) (hs : ∀ pre k l, v.Kids = pre ++ k :: l → self M (i + 1 + bX pre) = some k) : ∀ (l pre : List aL) (n : Nat) (q : Int), v.Kids = pre ++ l → q = pre.length → l.length < n →
  eY (hd i p v, b) self M j n q pre = j v.Kids
 | [], pre, n, q, ht, hq, hn => by
  obtain ⟨n, rfl⟩ : ∃ m, n = m + 1 := ⟨n - 1, by simp at hn; omega⟩
  have hlen : (hd i p v).Kids.length = pre.length := by show (qW _ _).length = _; rw [oZ, ht]; simp
  rw [eY, if_neg (by simp only [hlen]; simp; omega), ht, List.append_nil]
 | k :: l, pre, n, q, ht, hq, hn => by
  obtain ⟨n, rfl⟩ : ∃ m, n = m + 1 := ⟨n - 1, by simp at hn; omega⟩
  have hlen : (hd i p v).Kids.length = pre.length + (l.length + 1) := by show (qW _ _).length = _; rw [oZ, ht]; simp
  have hkl := nU v.Kids
  have hsz := lL v
  have hv : bX v.Kids = bX pre + (gP k + bX l) := by rw [ht, kT, bX]
  have hpl : pre.length ≤ 1000 := by have := nU pre; omega
  have hw : IntKind.wrap .i64 (q + 1) = q + 1 := Go.Bm.bB (by omega) (by omega)
  have hix : idx (hd i p v).Kids q = some (i + 1 + bX pre) := by
   refine pZ (pre := qW (i + 1) pre) (l := qW (i + 1 + bX pre + gP k) l) ?_ (by rw [oZ]; exact hq)
   show qW (i + 1) v.Kids = _
   rw [ht, sO, qW]
  rw [eY, if_pos (by simp only [hlen]; simp; omega), hix]
  simp only [Option.bind_some]
  rw [hs pre k l ht]
  simp only [Option.bind_some, hw]
  rw [Hl (by simp; omega) (by decide)]
  simp only [Option.bind_some]
  exact Gn M self v i p b j hz hs l (pre ++ [k]) n (q + 1) (by rw [ht]; simp) (by simp; omega) (by simp at hn; omega)
theorem Ij (M : List (Int × aR)) (v : aL) : ∀ (n : Nat) (i p : Int), Zv M i p v → Fi v ≤ n → gP v ≤ 1000 → gA n M i = some v := by
 induction v using jY with
 | h v ih =>
  intro n i p hM hn hz
  have hfu := wT v
  have hsz := lL v
  obtain ⟨n, rfl⟩ : ∃ m, n = m + 1 := ⟨n - 1, by omega⟩
  rw [gA, jD]
  unfold aV
  have hl : M.lookup i = some (hd i p v) := hM (hd i p v) (by rw [mB]; simp)
  simp only [gN, jF, hl, Option.getD_some, Option.isSome_some, Option.bind_some]
  exact (Gn M (fun a0 a1 => gA n a0 a1) v i p true _ hz (fun pre k l hk => by
   have hmem : k ∈ v.Kids := by rw [hk]; simp
   exact ih k hmem n _ i (hM.kid hk) (by have := qE hmem; omega) (by have := rQ hmem; omega)) v.Kids [] n 0 rfl rfl (by omega)).trans (by cases v; rfl)
structure cS (t : bC) (v : aL) : Prop where
 root : 1 ≤ t.Root ∧ t.Root ≤ 1000000000
 next : t.Next = t.Root + gP v
 nodes : t.Nodes = uH t.Root 0 v
 size : gP v ≤ 400
theorem cS.nodup {t : bC} {v : aL} (h : cS t v) : (t.Nodes.map aR.ID).Nodup := by rw [h.nodes, Bh]; exact Fy _ _
theorem cS.sub {t : bC} {v : aL} (h : cS t v) : Zv (lM t.Nodes) t.Root 0 v := fun x hx => mM h.nodup (by rw [h.nodes]; exact hx)
theorem Tj {t : bC} {v : aL} (h : cS t v) (n : Nat) (hn : Fi v + 3000 ≤ n) : pL n t = some (lM t.Nodes, true) := by
 obtain ⟨r1, r2⟩ := h.root
 have hnx := h.next
 have hsz := h.size
 have hp := sH v
 have hlen : t.Nodes.length = gP v := by rw [h.nodes, Ip]
 unfold pL
 have c : ((((decide (t.Next < 2)) || (decide (t.Next > 1099511627776))) || (decide ((List.length t.Nodes : Int) < 1))) || (decide ((List.length t.Nodes : Int) > 400))) = false := by
  simp only [Bool.or_eq_false_iff, decide_eq_false_iff_not]
  omega
 rw [c]
 simp only [Bool.false_eq_true, if_false]
 unfold aV
 have g := Kr t (fun v10 => (some (gN t.Root v10, jF t.Root v10)).bind fun (y11 : (aR × Bool)) => (if (!y11.2) = true then some (([] : List (Int × aR)), false) else (fun (j12 : List (Int × Bool) → Option ((List (Int × aR)) × Bool)) => gS t v10 j12 n 0 (iP t.Root true ([] : List (Int × Bool)))) fun (v43 : List (Int × Bool)) => (if ((List.length v43 : Int) != (List.length v10 : Int)) = true then some (([] : List (Int × aR)), false) else (eV n v10 t.Root).bind fun (y44 : (List Int)) => some (v10, ((List.length y44 : Int) == (List.length v10 : Int)))))) t.Nodes [] n 0 0 t.Root rfl rfl (by omega) (by rw [hlen, h.nodes, Bh]) (by omega) (fun x hx => nomatch hx) (fun x hx => by
  rw [h.nodes] at hx
  have h1 := Ay.1 (Bh v t.Root 0 ▸ List.mem_map.2 ⟨x, hx, rfl⟩ : x.ID ∈ qQ t.Root (gP v))
  refine ⟨by omega, ?_⟩
  rcases Ny v t.Root 0 x hx with ⟨a, b⟩ | ⟨a, b, _⟩
  ·rw [a, b]; simp
  ·have e1 : (x.Parent == 0) = false := by rw [beq_eq_false_iff_ne]; omega
   have e2 : (x.ID == t.Root) = false := by rw [beq_eq_false_iff_ne]; omega
   rw [e1, e2]) (by omega)
 refine (show _ = _ from g).trans ?_
 have hl : (lM t.Nodes).lookup t.Root = some (hd t.Root 0 v) := h.sub (hd t.Root 0 v) (by rw [mB]; simp)
 simp only [gN, jF, hl, Option.getD_some, Option.isSome_some, Option.bind_some, Bool.not_true, Bool.false_eq_true, if_false]
 obtain ⟨k1, k2, k3⟩ := Lr v t.Root 0
 have hnd : ([t.Root] ++ t.Nodes.flatMap aR.Kids).Nodup := by
  rw [h.nodes, List.singleton_append, List.nodup_cons]
  exact ⟨fun hm => by have := k2 _ hm; omega, k1⟩
 have hll : ([t.Root] ++ t.Nodes.flatMap aR.Kids).length = gP v := by
  rw [h.nodes, List.singleton_append, List.length_cons]; omega
 rw [show iP t.Root true ([] : List (Int × Bool)) = An [t.Root] from rfl]
 rw [La t (lM t.Nodes) _ (by omega) t.Nodes [] n 0 [t.Root] rfl rfl (by omega) hnd (by omega) (fun x hx k hk => by
  rw [h.nodes] at hx
  obtain ⟨y, hy, e1, e2⟩ := Nd v t.Root 0 x k hx hk
  exact ⟨y, by rw [← e1]; exact h.sub y hy, e2⟩)]
 have e1 : (An ([t.Root] ++ t.Nodes.flatMap aR.Kids)).length = gP v := by rw [An, List.length_map, hll]
 have e2 : (lM t.Nodes).length = gP v := by rw [lM, List.length_map, hlen]
 simp only [e1, e2, bne_self_eq_false, Bool.false_eq_true, if_false]
 rw [Kp (lM t.Nodes) v n t.Root 0 h.sub (by omega) (by omega)]
 simp only [Option.bind_some, vH, beq_self_eq_true]
theorem Lz {t : bC} {v : aL} (h : cS t v) (n : Nat) (hn : Fi v + 3000 ≤ n) : kZ n t = (jZ n v).bind fun y => some (lM t.Nodes, v, y) := by
 unfold kZ
 rw [Tj h n hn]
 simp only [Option.bind_some, Bool.not_true, Bool.false_eq_true, if_false]
 rw [Ij (lM t.Nodes) v n t.Root 0 h.sub (by omega) (by have := h.size; omega)]
 rfl
end Go.Proofs.YtojkihhnioeggaaGreatDoor.S
