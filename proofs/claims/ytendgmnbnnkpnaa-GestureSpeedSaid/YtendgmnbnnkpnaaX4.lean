/- append: what a function's own slices and copies want. -/
import Derived.Test.YtendgmnbnnkpnaaX3
import Derived.WalkKit
import Derived.WalkSpells
import Derived.WalkLawsBesides
import Derived.Deep.QuietTactic
import Derived.BigQuiet
import Derived.BigRegion
import Derived.Lib.Hide
import Derived.Deep.RegionWith
set_option linter.unusedSimpArgs false
set_option linter.unusedVariables false
namespace Go
open Go.RowKit
section
variable {P : Program}
theorem Ext.of_grown {w w0 w' : World} {row : Option Nat} (h : Ext w w0) (hg : w0.grownBy w' row) (hr : ∀ k, row = some k → w.heap.size ≤ k) : Ext w w' :=
  Ext.of_below (h.below.grown hg h.size hr)
/-- what is owned and isn't nil lies at the head of a block -/
theorem ownsRow_some {w : World} {base : Nat} {e : TypeId} {size : Nat} {v : Value} {n : Nat} {xs : List Value} (h : w.ownsRow base e size v n xs) (hn : ¬ v = .slice none 0 0) : ∃ g c, v = .slice (some ⟨g, 0, none⟩) n c := by
  rcases h.2 with ⟨rfl, _⟩ | ⟨g, cap, cur, rfl, _⟩
  · exact absurd rfl hn
  · exact ⟨g, cap, rfl⟩
theorem ownsRow_pos {w : World} {base : Nat} {e : TypeId} {size : Nat} {v : Value} {n : Nat} {xs : List Value} (h : w.ownsRow base e size v n xs) (hn : 0 < n) : ∃ g c, v = .slice (some ⟨g, 0, none⟩) n c := by
  rcases h.2 with ⟨rfl, h0⟩ | ⟨g, cap, cur, rfl, _⟩
  · omega
  · exact ⟨g, cap, rfl⟩
theorem ownsRow_ext {w w' : World} {base : Nat} {e : TypeId} {size : Nat} {v : Value} {n : Nat} {xs : List Value} (h : w.ownsRow base e size v n xs) (he : Ext w w') : w'.ownsRow base e size v n xs := by
  refine ⟨h.1, ?_⟩
  rcases h.2 with h2 | ⟨g, cap, cur, hv, hb, hg, r⟩
  · exact .inl h2
  · exact .inr ⟨g, cap, cur, hv, hb, heap_some_ext hg he, r⟩
/-- 'append(S{}, s...)' right behind the empty literal: a new row with s's cells -/
theorem wpList_append_copy (w : World) {ops : Array Oper} {rest : List Oper} {o : Oper} {a : Act} {Q : Exit → Act → World → Prop} (s x : Operand) (t : TypeId)
    (e : TypeId) (z : Value) (size bytes : Nat) (hinfo : (P.info? e).map (fun i => (i.zero, i.size, i.bytes)) = some (some z, size, bytes)) (ht : P.underlying t = some (.slice e)) (hzs : z.cells.size = size) (hsz : 0 < size)
    (ad : Addr) (m c : Nat) (news : List Value) (hl : news.length = m * size) (hnews : ∀ j u, news[j]? = some u → w.cell? (ad.add j) = some u) (hlt : ad.block < w.heap.size) (h1 : ∀ u ∈ news, u.oneCell' = true)
    (h63 : m ≤ maxLen) (hbytes : m * bytes ≤ 140737488355328)
    (hgd : o.guard = none) (ho : o.op = .call { callee := .builtin .append, args := #[s, x], argTypes := #[t, t] }) (hs : a.eval s = .slice (some ⟨w.heap.size, 0, none⟩) 0 0) (hx : a.eval x = .slice (some ad) m c)
    (h : ∀ g c' w', w'.ownsRow w.heap.size e size (.slice (some ⟨g, 0, none⟩) m c') m news → Ext w w' → wpList P ops Q rest (a.put o.dst (.slice (some ⟨g, 0, none⟩) m c')) w') : wpList P ops Q (o :: rest) a (w.alloc (.cells #[] e)) := by
  obtain ⟨i, hi, hz, hi1, hi2⟩ := info_parts hinfo
  have hnews' : ∀ j u, news[j]? = some u → (w.alloc (.cells #[] e)).cell? (ad.add j) = some u := fun j u hu => by
    have hb : (ad.add j).block = ad.block := by unfold Addr.add; split <;> rfl
    rw [World.cell?_alloc_lt _ _ _ (by rw [hb]; exact hlt)]; exact hnews j u hu
  refine wpList_append_own (w := w.alloc (.cells #[] e)) hgd s x t ho w.heap.size e i z size bytes ht hi hz hi1 hi2 hzs hsz _ 0 [] hs (World.ownsRow_made w #[] 0 (Nat.le_refl _) (by decide) (by simp)) ad m c news hx hl hnews' h1
    (by omega) (by simpa using hbytes) (by simp) ?_
  intro v' w' hown hg hnil
  obtain ⟨g, c', rfl⟩ := ownsRow_some hown (fun hv => by have := hnil.1 hv; cases this.1)
  rw [List.nil_append, Nat.zero_add] at hown
  rw [Nat.zero_add]
  refine h g c' w' ?_ ?_
  · exact hown
  · exact Ext.of_grown (Ext.alloc (Ext.refl w) _) hg (fun k hk => by simp [Value.ownBlock] at hk; omega)
/-- alike but for the blocks of S -/
structure Like (S : Nat → Prop) (X Y : World) : Prop where
  size : Y.heap.size = X.heap.size
  heap : ∀ k, ¬ S k → Y.heap[k]? = X.heap[k]?
theorem Like.refl (S : Nat → Prop) (X : World) : Like S X X := ⟨rfl, fun _ _ => rfl⟩
theorem Like.swap {S : Nat → Prop} {X Y : World} (h : Like S X Y) (hs : S X.heap.size) (O O' : Obj) : Like S (X.alloc O) (Y.alloc O') :=
  ⟨by simp [h.size], fun k hk => by
    show (Y.heap.push O')[k]? = (X.heap.push O)[k]?
    have hne : k ≠ X.heap.size := fun e => hk (e ▸ hs)
    rw [Array.getElem?_push, Array.getElem?_push, h.size, if_neg hne, if_neg hne]
    exact h.heap k hk⟩
theorem Like.ext {S : Nat → Prop} {X Y : World} (h : Like S X Y) (d : Grow) : Like S (X.ext d) (Y.ext d) :=
  ⟨by simp [h.size], fun k hk => by
    show (Y.heap ++ d.objs)[k]? = (X.heap ++ d.objs)[k]?
    rw [Array.getElem?_append, Array.getElem?_append, h.size, h.heap k hk]⟩
theorem Like.alloc {S : Nat → Prop} {X Y : World} (h : Like S X Y) (O : Obj) : Like S (X.alloc O) (Y.alloc O) :=
  ⟨by simp [h.size], fun k hk => by
    show (Y.heap.push O)[k]? = (X.heap.push O)[k]?
    rw [Array.getElem?_push, Array.getElem?_push, h.size, h.heap k hk]⟩
theorem Like.trans {S : Nat → Prop} {X Y Z : World} (h : Like S X Y) (h' : Like S Y Z) : Like S X Z :=
  ⟨h'.size.trans h.size, fun k hk => (h'.heap k hk).trans (h.heap k hk)⟩
theorem Like.setCell {S : Nat → Prop} {X Y : World} (h : Like S X Y) {a : Addr} (ha : S a.block) (v : Value) : Like S X (Y.setCell a v) :=
  h.trans ⟨by simp, fun k hk => by
    simp only [World.setCell, Array.getElem?_modify]
    rw [if_neg (fun e : a.block = k => hk (e ▸ ha))]⟩
theorem ownsRow_like {S : Nat → Prop} {X Y : World} {base : Nat} {e : TypeId} {size : Nat} {v : Value} {n : Nat} {xs : List Value} (h : X.ownsRow base e size v n xs) (hl : Like S X Y) (hne : ∀ b, v.ownBlock = some b → ¬ S b) : Y.ownsRow base e size v n xs := by
  refine ⟨h.1, ?_⟩
  rcases h.2 with h2 | ⟨g, cap, cur, rfl, hb, hg, r⟩
  · exact .inl h2
  · refine .inr ⟨g, cap, cur, rfl, hb, ?_, r⟩
    rw [hl.heap g (hne g rfl)]; exact hg
theorem own_ge {X : World} {base : Nat} {e : TypeId} {size n c g : Nat} {xs : List Value} (h : X.ownsRow base e size (.slice (some ⟨g, 0, none⟩) n c) n xs) : base ≤ g ∧ g < X.heap.size := h.lt g rfl
theorem own_ne {X : World} {base : Nat} {e e' : TypeId} {size n c g b : Nat} {xs : List Value} {cur : Array Value} {fr : Nat × Nat} (h : X.ownsRow base e size (.slice (some ⟨g, 0, none⟩) n c) n xs) (hb : X.heap[b]? = some (.cells cur e' fr)) (hne : e ≠ e') : g ≠ b := by
  rintro rfl
  rcases h.2 with ⟨h2, _⟩ | ⟨g', cap, cur', hv, _, hg, _⟩
  · cases h2
  · simp only [Value.slice.injEq, Option.some.injEq, Addr.mk.injEq, and_true, true_and] at hv
    obtain ⟨rfl, _⟩ := hv
    rw [hb] at hg
    simp only [Option.some.injEq, Obj.cells.injEq] at hg
    exact hne hg.2.1.symm
theorem heap_at (W : World) (d : Grow) (O : Obj) {Y : World} (h : Ext ((W.ext d).alloc O) Y) : Y.heap[W.heap.size + d.size]? = some O := by
  refine heap_some_ext ?_ h
  have := heap_alloc_new (W.ext d) O
  rwa [World.size_ext] at this
theorem own_join {W Y : World} {d : Grow} {cur : Array Value} {e : TypeId} {size n c B b : Nat} (h : Ext ((W.ext d).alloc (.cells cur e)) Y) (hb : W.heap.size + d.size = b) (hB : B ≤ b) (hs : cur.size = c * size) (hn : n ≤ c) (hm : c ≤ maxLen) {xs : List Value} (ht : cur.toList.take (n * size) = xs) :
    Y.ownsRow B e size (.slice (some ⟨b, 0, none⟩) n c) n xs := by
  subst hb
  exact ⟨by rw [← ht, List.length_take, Array.length_toList, hs]; exact Nat.min_eq_left (Nat.mul_le_mul_right _ hn), .inr ⟨_, c, cur, rfl, hB, heap_at W d _ h, hn, hm, hs, ht⟩⟩
end
end Go
