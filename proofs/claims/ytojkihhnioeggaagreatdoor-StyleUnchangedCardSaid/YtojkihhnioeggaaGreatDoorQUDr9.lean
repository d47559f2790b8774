import Derived.Test.YtojkihhnioeggaaGreatDoorQUBC
import Derived.Test.YtojkihhnioeggaaGreatDoorQUBE
import Derived.WalkKit
import Derived.WalkSpells
import Derived.WalkLawsBesides
import Derived.Deep.QuietTactic
import Derived.BigQuiet
import Derived.BigRegion
import Derived.Lib.Hide
import Derived.Deep.RegionWith
set_option linter.unusedSimpArgs false
set_option linter.unusedVariables false
set_option linter.unusedSimpArgs false
set_option linter.unusedVariables false
namespace Go.Proofs.YtojkihhnioeggaaGreatDoor.S
open Go Go.Bm
theorem Hq (s : ByteArray) (i : Int) (h0 : 0 ≤ i) (h1 : i < s.size) : ∃ u, xW s i = some u := by
 unfold xW
 rw [if_pos h0]
 have : i.toNat < s.size := by omega
 rw [getElem?_pos s i.toNat this]
 exact ⟨_, rfl⟩
theorem zI {α : Type} (l : List α) (i : Int) (h0 : 0 ≤ i) (h1 : i < l.length) : ∃ u, idx l i = some u ∧ u ∈ l := by
 unfold idx
 rw [if_pos h0]
 have : i.toNat < l.length := by omega
 exact ⟨l[i.toNat], by rw [List.getElem?_eq_getElem this], List.getElem_mem this⟩
theorem Km {α : Type} [Inhabited α] {b : Bool} {x : Option α} (h : b = true) : gd [b] x = x := by simp [gd, h]
theorem gd_f {α : Type} [Inhabited α] {b : Bool} {x : Option α} (h : b = false) : gd [b] x = some default := by simp [gd, h]
def kV {α : Type} (x : Option α) (P : α → Prop) : Prop := ∃ a, x = some a ∧ P a
theorem bX {α : Type} {a : α} {P : α → Prop} (h : P a) : kV (some a) P := ⟨a, rfl, h⟩
theorem aG {α β : Type} {x : Option α} {f : α → Option β} {P : α → Prop} {Q : β → Prop} (h : kV x P) (k : ∀ a, P a → kV (f a) Q) : kV (x.bind f) Q := by
 obtain ⟨a, rfl, ha⟩ := h
 exact k a ha
theorem bN {α : Type} {b : Bool} {x y : Option α} {P : α → Prop} (h : b = true → kV x P) (k : b = false → kV y P) : kV (if b = true then x else y) P := by
 cases b
 ·exact k rfl
 ·exact h rfl
theorem Wz {α : Type} {x : Option α} {P Q : α → Prop} (h : kV x P) (k : ∀ a, P a → Q a) : kV x Q := let ⟨a, h1, h2⟩ := h; ⟨a, h1, k a h2⟩
theorem qC {A β : Type} {j : A → Option β} {b : (A → Option β) → Option β} (R : A → Prop) {Q : β → Prop} (hj : ∀ a, R a → kV (j a) Q) (hb : ∀ j', (∀ a, R a → kV (j' a) Q) → kV (b j') Q) : kV (aS j b) Q := hb j hj
theorem Qq {A B β : Type} {j : A → B → Option β} {b : (A → B → Option β) → Option β} (R : A → B → Prop) {Q : β → Prop} (hj : ∀ a c, R a c → kV (j a c) Q) (hb : ∀ j', (∀ a c, R a c → kV (j' a c) Q) → kV (b j') Q) : kV (aS j b) Q := hb j hj
theorem bU {A B C β : Type} {j : A → B → C → Option β} {b : (A → B → C → Option β) → Option β} (R : A → B → C → Prop) {Q : β → Prop} (hj : ∀ a c d, R a c d → kV (j a c d) Q) (hb : ∀ j', (∀ a c d, R a c d → kV (j' a c d) Q) → kV (b j') Q) : kV (aS j b) Q := hb j hj
theorem lV {α : Type} {l : List α} {i : Int} (h0 : 0 ≤ i) (h1 : i < l.length) : kV (idx l i) fun x => x ∈ l := zI l i h0 h1
theorem aAt {α : Type} {l : List α} {k : Nat} (h : k < l.length) : kV (l[k]?) fun x => x ∈ l := by
 rw [List.getElem?_eq_getElem h]
 exact bX (List.getElem_mem h)
theorem dV {α : Type} {b : Nat} {l els : List α} (h : l.length + els.length ≤ 100000) (hb : b ≤ 1000) : kV (pD b l els) fun r => r = l ++ els := by
 unfold pD
 have : (l.length + els.length) * b ≤ 100000 * 1000 := Nat.mul_le_mul h hb
 rw [if_pos ⟨by omega, by omega⟩]
 exact bX rfl
end Go.Proofs.YtojkihhnioeggaaGreatDoor.S
