import Derived.Test.YtojkihhnioeggaaGreatDoorQMBC
import Derived.Test.YtojkihhnioeggaaGreatDoorQMBE
import Derived.WalkKit
import Derived.WalkSpells
import Derived.WalkLawsBesides
import Derived.Deep.QuietTactic
import Derived.BigQuiet
import Derived.BigRegion
import Derived.Lib.Hide
import Derived.Deep.RegionWith
set_option linter.unusedSimpArgs false
set_option linter.unusedVariables false
set_option linter.unusedSimpArgs false
set_option linter.unusedVariables false
namespace Go.Proofs.YtojkihhnioeggaaGreatDoor.S
open Go Go.Bm
theorem Gv (s : ByteArray) (i : Int) (h0 : 0 ≤ i) (h1 : i < s.size) : ∃ u, wU s i = some u := by
 unfold wU
 rw [if_pos h0]
 have : i.toNat < s.size := by omega
 rw [getElem?_pos s i.toNat this]
 exact ⟨_, rfl⟩
theorem Tp {α : Type} (l : List α) (i : Int) (h0 : 0 ≤ i) (h1 : i < l.length) : ∃ u, idx l i = some u ∧ u ∈ l := by
 unfold idx
 rw [if_pos h0]
 have : i.toNat < l.length := by omega
 exact ⟨l[i.toNat], by rw [List.getElem?_eq_getElem this], List.getElem_mem this⟩
theorem Am {α : Type} [Inhabited α] {b : Bool} {x : Option α} (h : b = true) : gd [b] x = x := by simp [gd, h]
theorem gd_f {α : Type} [Inhabited α] {b : Bool} {x : Option α} (h : b = false) : gd [b] x = some default := by simp [gd, h]
def lJ {α : Type} (x : Option α) (P : α → Prop) : Prop := ∃ a, x = some a ∧ P a
theorem bW {α : Type} {a : α} {P : α → Prop} (h : P a) : lJ (some a) P := ⟨a, rfl, h⟩
theorem aN {α β : Type} {x : Option α} {f : α → Option β} {P : α → Prop} {Q : β → Prop} (h : lJ x P) (k : ∀ a, P a → lJ (f a) Q) : lJ (x.bind f) Q := by
 obtain ⟨a, rfl, ha⟩ := h
 exact k a ha
theorem bJ {α : Type} {b : Bool} {x y : Option α} {P : α → Prop} (h : b = true → lJ x P) (k : b = false → lJ y P) : lJ (if b = true then x else y) P := by
 cases b
 ·exact k rfl
 ·exact h rfl
theorem Sc {α : Type} {x : Option α} {P Q : α → Prop} (h : lJ x P) (k : ∀ a, P a → Q a) : lJ x Q := let ⟨a, h1, h2⟩ := h; ⟨a, h1, k a h2⟩
theorem qB {A β : Type} {j : A → Option β} {b : (A → Option β) → Option β} (R : A → Prop) {Q : β → Prop} (hj : ∀ a, R a → lJ (j a) Q) (hb : ∀ j', (∀ a, R a → lJ (j' a) Q) → lJ (b j') Q) : lJ (aV j b) Q := hb j hj
theorem Ms {A B β : Type} {j : A → B → Option β} {b : (A → B → Option β) → Option β} (R : A → B → Prop) {Q : β → Prop} (hj : ∀ a c, R a c → lJ (j a c) Q) (hb : ∀ j', (∀ a c, R a c → lJ (j' a c) Q) → lJ (b j') Q) : lJ (aV j b) Q := hb j hj
theorem bN {A B C β : Type} {j : A → B → C → Option β} {b : (A → B → C → Option β) → Option β} (R : A → B → C → Prop) {Q : β → Prop} (hj : ∀ a c d, R a c d → lJ (j a c d) Q) (hb : ∀ j', (∀ a c d, R a c d → lJ (j' a c d) Q) → lJ (b j') Q) : lJ (aV j b) Q := hb j hj
theorem lW {α : Type} {l : List α} {i : Int} (h0 : 0 ≤ i) (h1 : i < l.length) : lJ (idx l i) fun x => x ∈ l := Tp l i h0 h1
theorem Wl {α : Type} {l : List α} {k : Nat} (h : k < l.length) : lJ (l[k]?) fun x => x ∈ l := by
 rw [List.getElem?_eq_getElem h]
 exact bW (List.getElem_mem h)
theorem dY {α : Type} {b : Nat} {l els : List α} (h : l.length + els.length ≤ 100000) (hb : b ≤ 1000) : lJ (pE b l els) fun r => r = l ++ els := by
 unfold pE
 have : (l.length + els.length) * b ≤ 100000 * 1000 := Nat.mul_le_mul h hb
 rw [if_pos ⟨by omega, by omega⟩]
 exact bW rfl
end Go.Proofs.YtojkihhnioeggaaGreatDoor.S
