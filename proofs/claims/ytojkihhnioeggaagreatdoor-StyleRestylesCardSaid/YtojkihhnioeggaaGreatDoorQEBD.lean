import Derived.Test.YtojkihhnioeggaaGreatDoorQEBC
import Derived.WalkKit
import Derived.WalkSpells
import Derived.WalkLawsBesides
import Derived.Deep.QuietTactic
import Derived.BigQuiet
import Derived.BigRegion
import Derived.Lib.Hide
import Derived.Deep.RegionWith
set_option linter.all false
namespace Go.Bm
open Go
def WT (E : oT) : Nat → TypeId → List CV → Prop
 | 0, _, _ => False
 | n + 1, T, l => match E.ti T with
  | some ⟨.int k, _, _, _⟩ => ∃ i, (Lit.int k i).wf = true ∧ l = [.v (.int k i)]
  | some ⟨.boo, _, _, _⟩ => ∃ b, l = [.v (.bool b)]
  | some ⟨.str, _, _, _⟩ => ∃ s : ByteArray, s.size ≤ maxLen ∧ l = [.v (.string s)]
  | some ⟨.sl e, _, _, _⟩ => ∃ L : List (List CV), L.length ≤ maxLen ∧ l = [.lit L] ∧ ∀ x, x ∈ L → WT E n e x
  | some ⟨.arr len e, _, _, _⟩ => ∃ L : List (List CV), L.length = len ∧ l = L.flatten ∧ ∀ x, x ∈ L → WT E n e x
  | some ⟨.st fs, _, _, _⟩ => ∃ L : List (List CV), L.length = fs.length ∧ l = L.flatten ∧ ∀ (i : Nat) f x, fs[i]? = some f → L[i]? = some x → WT E n f.1 x
  | _ => False
def openS (E : oT) (S : List TypeId) : Bool := S.all fun T => match E.ti T with
 | some ⟨.int _, _, _, _⟩ => true
 | some ⟨.boo, _, _, _⟩ => true
 | some ⟨.str, _, _, _⟩ => true
 | some ⟨.sl e, _, _, _⟩ => S.contains e && match E.ti e with | some j => decide (0 < j.size) | none => false
 | some ⟨.arr len e, sz, _, _⟩ => S.contains e && match E.ti e with | some j => decide (sz = len * j.size) | none => false
 | some ⟨.st fs, sz, _, _⟩ => Gx 0 fs && fs.all (fun f => S.contains f.1) && decide (sz = wP (fs.map fun f => f.2.2))
 | _ => false
theorem xN {α : Type} [Inhabited α] {n : Nat} {p : Nat → α → Prop} (h : ∀ i, i < n → ∃ x, p i x) : ∃ L : List α, L.length = n ∧ ∀ (i : Nat) x, L[i]? = some x → p i x := by
 induction n with
 | zero => exact ⟨[], rfl, fun i x hx => by simp at hx⟩
 | succ n ih =>
  obtain ⟨L, h1, h2⟩ := ih fun i hi => h i (by omega)
  obtain ⟨x, hx⟩ := h n (by omega)
  refine ⟨L ++ [x], by simp [h1], fun i y hy => ?_⟩
  rw [List.getElem?_append] at hy
  split at hy
  ·exact h2 i y hy
  ·rename_i hi
   have : i = n := by
    have := (List.getElem?_eq_some_iff.1 hy).1
    simp at this; omega
   subst this
   simp [h1] at hy
   exact hy ▸ hx
def qZ (μ : cL) (l : List CV) (cs : List Value) : Prop := l.length = cs.length ∧ ∀ (j : Nat) (y : CV), l[j]? = some y → ∃ v, cs[j]? = some v ∧ cQ μ y v ∧ v.oneCell' = true
theorem qZ.one {μ : cL} {y : CV} {v : Value} (h : cQ μ y v) (hv : v.oneCell' = true) : qZ μ [y] [v] := ⟨rfl, fun j z hj => by
 cases j with
 | zero => simp at hj; subst hj; exact ⟨v, rfl, h, hv⟩
 | succ j => simp at hj⟩
theorem qZ.append {μ : cL} {l l' : List CV} {cs cs' : List Value} (h : qZ μ l cs) (k : qZ μ l' cs') : qZ μ (l ++ l') (cs ++ cs') := ⟨by simp [h.1, k.1], fun j y hj => by
 rw [List.getElem?_append] at hj ⊢
 rw [← h.1]
 split at hj
 ·rename_i hl; rw [if_pos hl]; exact h.2 j y hj
 ·rename_i hl; rw [if_neg hl]; exact k.2 _ y hj⟩
theorem qZ.flatten {μ : cL} : ∀ {L : List (List CV)} {R : List (List Value)}, L.length = R.length → (∀ (i : Nat) l r, L[i]? = some l → R[i]? = some r → qZ μ l r) → qZ μ L.flatten R.flatten
 | [], [], _, _ => ⟨rfl, fun j y hj => by simp at hj⟩
 | [], _ :: _, h, _ => by simp at h
 | _ :: _, [], h, _ => by simp at h
 | l :: L, r :: R, h, k => by
  rw [List.flatten_cons, List.flatten_cons]
  exact (k 0 l r rfl rfl).append (qZ.flatten (by simpa using h) fun i x y hx hy => k (i + 1) x y (by simpa using hx) (by simpa using hy))
theorem yH {E : oT} {H : Type} {enc : TypeId × Value → H} {w : World} {base : Nat} {sp : Nat → Bool} {held : Bool} {S : List TypeId} (hS : openS E S = true) : ∀ (n : Nat) (T : TypeId) (cs : List Value) (x : DataW H × List MemPlace), S.contains T = true → DataW.trod enc E.P w base sp held n T cs = some x → ∃ l, WT E n T l ∧ qZ (Lf w) l cs
 | 0, T, cs, x, _, h => by simp [DataW.trod] at h
 | n + 1, T, cs, x, hT, h => by
  have hk := List.all_eq_true.1 hS T (by simpa using hT)
  unfold WT
  split at hk
  ·rename_i k z1 z2 z3 hti
   obtain ⟨i, rfl, _, hw⟩ := DataW.trod_int (E.ok T _ hti).k h
   exact ⟨_, ⟨i, hw, rfl⟩, qZ.one (.v _) rfl⟩
  ·rename_i z1 z2 z3 hti
   obtain ⟨b, rfl, _⟩ := DataW.trod_bool (E.ok T _ hti).k h
   exact ⟨_, ⟨b, rfl⟩, qZ.one (.v _) rfl⟩
  ·rename_i z1 z2 z3 hti
   obtain ⟨s, rfl, _, hs⟩ := DataW.trod_string (E.ok T _ hti).k h
   exact ⟨_, ⟨s, hs, rfl⟩, qZ.one (.v _) rfl⟩
  ·rename_i e z1 z2 z3 hti
   simp only [Bool.and_eq_true] at hk
   obtain ⟨hk1, hk2⟩ := hk
   split at hk2
   ·rename_i j hj
    simp only [decide_eq_true_eq] at hk2
    rcases DataW.trod_slice (E.ok T _ hti).k h with ⟨rfl, _⟩ | ⟨a, len, cap, elems, rest, m, hm, rfl, _, _, hl, hc, hel, hx, _⟩
    ·exact ⟨_, ⟨[], Nat.zero_le _, rfl, fun x hx => nomatch hx⟩, qZ.one (.nil _ _) rfl⟩
    ·obtain rfl : n = m := by omega
     by_cases h0 : len = 0
     ·subst h0
      exact ⟨_, ⟨[], Nat.zero_le _, rfl, fun x hx => nomatch hx⟩, qZ.one (.nil _ _) rfl⟩
     rw [oI hj] at hx
     obtain ⟨L, hL1, hL2⟩ := xN (n := len) (p := fun i l => ∃ cs', w.cells? base (a.add (i * j.size)) j.size = some cs' ∧ WT E n e l ∧ qZ (Lf w) l cs') fun i hi => by
      have h1 := hx i hi
      rw [List.getElem?_eq_getElem (by omega)] at h1
      obtain ⟨cs', h2, h3⟩ := Option.bind_eq_some_iff.1 h1
      obtain ⟨l, h4, h5⟩ := yH hS n e cs' _ hk1 h3
      exact ⟨l, cs', h2, h4, h5⟩
     have hsp : a.spot = none := by
      have h1 := hx 0 (by omega)
      rw [List.getElem?_eq_getElem (by omega)] at h1
      obtain ⟨cs', h2, _⟩ := Option.bind_eq_some_iff.1 h1
      obtain ⟨_, h3, h4⟩ := World.cells?_some h2
      have h5 := h4 0 hk2
      rw [List.getElem?_eq_getElem (by omega), Nat.zero_mul, Addr.add_zero', Addr.add_zero'] at h5
      exact World.cell?_spot h5
     obtain ⟨b, off, spot⟩ := a
     simp only at hsp
     subst hsp
     have hcell : ∀ (i : Nat) l, L[i]? = some l → ∃ cs', w.cells? base ⟨b, off + i * j.size, none⟩ j.size = some cs' ∧ WT E n e l ∧ qZ (Lf w) l cs' := fun i l hi => by
      have := hL2 i l hi
      rwa [Addr.add_lit] at this
     refine ⟨_, ⟨L, by unfold maxLen at *; omega, rfl, fun x hx => ?_⟩, qZ.one ?_ rfl⟩
     ·obtain ⟨i, hi, rfl⟩ := List.getElem_of_mem hx
      obtain ⟨_, _, h1, _⟩ := hcell i _ (List.getElem?_eq_getElem hi)
      exact h1
     ·have hw : ∀ (i q : Nat) (l : List CV) (y : CV), L[i]? = some l → l[q]? = some y → w.cell? ⟨b, off + i * j.size + q, none⟩ = some (((w.cells? base ⟨b, off + i * j.size, none⟩ j.size).getD []).getD q (.bool false)) ∧ (((w.cells? base ⟨b, off + i * j.size, none⟩ j.size).getD []).getD q (.bool false)).oneCell' = true ∧ cQ (Lf w) y (((w.cells? base ⟨b, off + i * j.size, none⟩ j.size).getD []).getD q (.bool false)) := fun i q l y hi hq => by
       obtain ⟨cs', h1, _, h2, h3⟩ := hcell i l hi
       obtain ⟨v, hv, hd, ho⟩ := h3 q y hq
       obtain ⟨_, h4, h5⟩ := World.cells?_some h1
       have h6 := h5 q (by have := (List.getElem?_eq_some_iff.1 hv).1; omega)
       rw [Addr.add_lit, hv] at h6
       rw [h1, Option.getD_some, List.getD_eq_getElem?_getD, hv]
       exact ⟨h6, ho, hd⟩
      rw [← hL1]
      refine .lit L b off cap j.size (fun i q => ((w.cells? base ⟨b, off + i * j.size, none⟩ j.size).getD []).getD q (.bool false)) (by omega) (fun i l hi => ?_) (fun i q l y hi hq => ⟨Zr (hw i q l y hi hq).1, (hw i q l y hi hq).2.1⟩) (fun i q l y hi hq => (hw i q l y hi hq).2.2)
      obtain ⟨cs', h1, _, h2, _⟩ := hcell i l hi
      rw [h2, (World.cells?_some h1).2.1]
   ·cases hk2
  ·rename_i len e sz z2 z3 hti
   simp only [Bool.and_eq_true] at hk
   obtain ⟨hk1, hk2⟩ := hk
   split at hk2
   ·rename_i j hj
    simp only [decide_eq_true_eq] at hk2
    obtain ⟨xs, m', hm, hx, hlen, hxn, hel⟩ := DataW.trod_array (E.ok T _ hti).k h
    obtain rfl : n = m' := by omega
    rw [oI hj] at hel
    obtain ⟨L, hL1, hL2⟩ := xN (n := len) (p := fun i l => WT E n e l ∧ qZ (Lf w) l ((cs.drop (i * j.size)).take j.size)) fun i hi => by
     have h1 := hel i hi
     rw [List.getElem?_eq_getElem (by omega)] at h1
     exact yH hS n e _ _ hk1 h1
    refine ⟨_, ⟨L, hL1, rfl, fun x hx => ?_⟩, ?_⟩
    ·obtain ⟨i, hi, rfl⟩ := List.getElem_of_mem hx
     exact (hL2 i _ (List.getElem?_eq_getElem hi)).1
    ·have hcs := Jo (List.replicate len j.size) ((List.range len).map fun i => (cs.drop (i * j.size)).take j.size) cs (by simp) (by rw [xL, hlen, oI hti, hk2]) fun i z hi => by
      have hi' : i < len := by have := (List.getElem?_eq_some_iff.1 hi).1; simpa using this
      have hz : z = j.size := by rw [List.getElem?_replicate, if_pos hi'] at hi; exact (Option.some.inj hi).symm
      subst hz
      rw [List.take_replicate, Nat.min_eq_left (Nat.le_of_lt hi'), xL]
      simp [List.getD_eq_getElem?_getD, List.getElem?_range hi']
     rw [hcs]
     refine qZ.flatten (by simp [hL1]) fun i l r hl hr => ?_
     rw [List.getElem?_map, Option.map_eq_some_iff] at hr
     obtain ⟨i', hi', rfl⟩ := hr
     obtain ⟨hi1, hi2⟩ := List.getElem?_eq_some_iff.1 hi'
     simp at hi2
     subst hi2
     exact (hL2 i l hl).2
   ·cases hk2
  ·rename_i fs sz z2 z3 hti
   simp only [Bool.and_eq_true, decide_eq_true_eq] at hk
   obtain ⟨⟨hk1, hk2⟩, hk3⟩ := hk
   obtain ⟨F, hF, hFf, hFs⟩ := (E.ok T _ hti).k
   obtain ⟨xs, m', hm, hx, hlen, hxn, hel⟩ := DataW.trod_struct hF h
   obtain rfl : n = m' := by omega
   have hfl : ∀ (i : Nat) f, fs[i]? = some f → ∃ x, DataW.trod enc E.P w base sp held n f.1 ((cs.drop (wP ((fs.map fun f => f.2.2).take i))).take f.2.2) = some x := fun i f hi => by
    obtain ⟨t, o, z'⟩ := f
    obtain ⟨g, inf, hff, rfl, rfl, hinf, hinfs⟩ := hFf i t o z' hi
    have ho := Gy fs 0 hk1 i _ hi
    simp only [Nat.zero_add] at ho
    have h1 := hel i g hff
    have hcz : E.P.cellsOf g.type = z' := by
     unfold Program.cellsOf
     rw [hinf, ← hinfs]; rfl
    rw [hcz] at h1
    have hi' : i < fs.length := (List.getElem?_eq_some_iff.1 hi).1
    rw [List.getElem?_eq_getElem (by omega)] at h1
    simp only [← ho]
    exact ⟨_, h1⟩
   obtain ⟨L, hL1, hL2⟩ := xN (n := fs.length) (p := fun i l => ∀ f, fs[i]? = some f → WT E n f.1 l ∧ qZ (Lf w) l ((cs.drop (wP ((fs.map fun f => f.2.2).take i))).take f.2.2)) fun i hi => by
    have hf := List.getElem?_eq_getElem hi
    obtain ⟨x, hx⟩ := hfl i _ hf
    obtain ⟨l, h1⟩ := yH hS n _ _ _ (List.all_eq_true.1 hk2 _ (List.getElem_mem hi)) hx
    exact ⟨l, fun f hf' => by rw [hf] at hf'; cases hf'; exact h1⟩
   refine ⟨_, ⟨L, hL1, rfl, fun i f x hf hx => (hL2 i x hx f hf).1⟩, ?_⟩
   have hcs := Jo (fs.map fun f => f.2.2) ((List.range fs.length).map fun i => (cs.drop (wP ((fs.map fun f => f.2.2).take i))).take ((fs.map fun f => f.2.2).getD i 0)) cs (by simp) (by rw [hlen, oI hti]; exact hk3) fun i z hi => by
    have hi' : i < fs.length := by have := (List.getElem?_eq_some_iff.1 hi).1; simpa using this
    simp [List.getD_eq_getElem?_getD, List.getElem?_range hi']
    rw [List.getElem?_map, List.getElem?_eq_getElem hi'] at hi
    simp only [Option.map_some, Option.some.injEq] at hi
    rw [List.getElem?_eq_getElem hi']
    simp [hi]
   rw [hcs]
   refine qZ.flatten (by simp [hL1]) fun i l r hl hr => ?_
   rw [List.getElem?_map, Option.map_eq_some_iff] at hr
   obtain ⟨i', hi', rfl⟩ := hr
   obtain ⟨hi1, hi2⟩ := List.getElem?_eq_some_iff.1 hi'
   simp at hi2
   subst hi2
   have hi3 : i < fs.length := by simpa using hi1
   have := (hL2 i l hl _ (List.getElem?_eq_getElem hi3)).2
   rw [List.getD_eq_getElem?_getD, List.getElem?_map, List.getElem?_eq_getElem hi3]
   exact this
  ·cases hk
theorem WT.st {E : oT} {n : Nat} {T : TypeId} {l : List CV} {fs : List (TypeId × Nat × Nat)} {sz by_ : Nat} {z : List Value} (hti : E.ti T = some ⟨.st fs, sz, by_, z⟩) (h : WT E n T l) : ∃ (m : Nat) (L : List (List CV)), L.length = fs.length ∧ l = L.flatten ∧ ∀ (i : Nat) f x, fs[i]? = some f → L[i]? = some x → WT E m f.1 x := by
 cases n with
 | zero => cases h
 | succ n => unfold WT at h; rw [hti] at h; exact ⟨n, h⟩
theorem WT.arr {E : oT} {n : Nat} {T : TypeId} {l : List CV} {len : Nat} {e : TypeId} {sz by_ : Nat} {z : List Value} (hti : E.ti T = some ⟨.arr len e, sz, by_, z⟩) (h : WT E n T l) : ∃ (m : Nat) (L : List (List CV)), L.length = len ∧ l = L.flatten ∧ ∀ x, x ∈ L → WT E m e x := by
 cases n with
 | zero => cases h
 | succ n => unfold WT at h; rw [hti] at h; exact ⟨n, h⟩
theorem WT.sl {E : oT} {n : Nat} {T : TypeId} {l : List CV} {e : TypeId} {sz by_ : Nat} {z : List Value} (hti : E.ti T = some ⟨.sl e, sz, by_, z⟩) (h : WT E n T l) : ∃ (m : Nat) (L : List (List CV)), L.length ≤ maxLen ∧ l = [.lit L] ∧ ∀ x, x ∈ L → WT E m e x := by
 cases n with
 | zero => cases h
 | succ n => unfold WT at h; rw [hti] at h; exact ⟨n, h⟩
theorem WT.int {E : oT} {n : Nat} {T : TypeId} {l : List CV} {k : IntKind} {sz by_ : Nat} {z : List Value} (hti : E.ti T = some ⟨.int k, sz, by_, z⟩) (h : WT E n T l) : ∃ i, (Lit.int k i).wf = true ∧ l = [.v (.int k i)] := by
 cases n with
 | zero => cases h
 | succ n => unfold WT at h; rw [hti] at h; exact h
theorem WT.boo {E : oT} {n : Nat} {T : TypeId} {l : List CV} {sz by_ : Nat} {z : List Value} (hti : E.ti T = some ⟨.boo, sz, by_, z⟩) (h : WT E n T l) : ∃ b, l = [.v (.bool b)] := by
 cases n with
 | zero => cases h
 | succ n => unfold WT at h; rw [hti] at h; exact h
theorem WT.str {E : oT} {n : Nat} {T : TypeId} {l : List CV} {sz by_ : Nat} {z : List Value} (hti : E.ti T = some ⟨.str, sz, by_, z⟩) (h : WT E n T l) : ∃ s : ByteArray, s.size ≤ maxLen ∧ l = [.v (.string s)] := by
 cases n with
 | zero => cases h
 | succ n => unfold WT at h; rw [hti] at h; exact h
theorem Wc {α : Type} {enc : α → List CV} {p : α → Prop} : ∀ (L : List (List CV)), (∀ x, x ∈ L → ∃ a, p a ∧ x = enc a) → ∃ l : List α, L = l.map enc ∧ ∀ a, a ∈ l → p a
 | [], _ => ⟨[], rfl, fun a ha => nomatch ha⟩
 | x :: L, h => by
  obtain ⟨a, ha, rfl⟩ := h x (by simp)
  obtain ⟨l, rfl, hl⟩ := Wc L fun y hy => h y (by simp [hy])
  exact ⟨a :: l, rfl, fun b hb => (List.mem_cons.1 hb).elim (fun e => e ▸ ha) (hl b)⟩
theorem Yy {μ : cL} {β : Nat → Bk} {y : CV} {v : Value} (h : qZ μ [y] [v]) : dL μ β (.c y) v := by
 obtain ⟨w, hw, hd, _⟩ := h.2 0 y rfl
 simp at hw
 subst hw
 exact iT hd
end Go.Bm
