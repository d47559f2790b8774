import Derived.Test.YtojkihhnioeggaaGreatDoorQBC
import Derived.Test.YtojkihhnioeggaaGreatDoorQBE
import Derived.WalkKit
import Derived.WalkSpells
import Derived.WalkLawsBesides
import Derived.Deep.QuietTactic
import Derived.BigQuiet
import Derived.BigRegion
import Derived.Lib.Hide
import Derived.Deep.RegionWith
set_option linter.unusedSimpArgs false
set_option linter.unusedVariables false
set_option linter.unusedSimpArgs false
set_option linter.unusedVariables false
namespace Go.Proofs.YtojkihhnioeggaaGreatDoor.S
open Go Go.Bm
theorem Fj (s : ByteArray) (i : Int) (h0 : 0 ≤ i) (h1 : i < s.size) : ∃ u, wD s i = some u := by
 unfold wD
 rw [if_pos h0]
 have : i.toNat < s.size := by omega
 rw [getElem?_pos s i.toNat this]
 exact ⟨_, rfl⟩
theorem Pz {α : Type} (l : List α) (i : Int) (h0 : 0 ≤ i) (h1 : i < l.length) : ∃ u, idx l i = some u ∧ u ∈ l := by
 unfold idx
 rw [if_pos h0]
 have : i.toNat < l.length := by omega
 exact ⟨l[i.toNat], by rw [List.getElem?_eq_getElem this], List.getElem_mem this⟩
theorem Dv {α : Type} [Inhabited α] {b : Bool} {x : Option α} (h : b = true) : gd [b] x = x := by simp [gd, h]
theorem aA0 {α : Type} [Inhabited α] {b : Bool} {x : Option α} (h : b = false) : gd [b] x = some default := by simp [gd, h]
def mQ {α : Type} (x : Option α) (P : α → Prop) : Prop := ∃ a, x = some a ∧ P a
theorem cF {α : Type} {a : α} {P : α → Prop} (h : P a) : mQ (some a) P := ⟨a, rfl, h⟩
theorem aO {α β : Type} {x : Option α} {f : α → Option β} {P : α → Prop} {Q : β → Prop} (h : mQ x P) (k : ∀ a, P a → mQ (f a) Q) : mQ (x.bind f) Q := by
 obtain ⟨a, rfl, ha⟩ := h
 exact k a ha
theorem bV {α : Type} {b : Bool} {x y : Option α} {P : α → Prop} (h : b = true → mQ x P) (k : b = false → mQ y P) : mQ (if b = true then x else y) P := by
 cases b
 ·exact k rfl
 ·exact h rfl
theorem Ru {α : Type} {x : Option α} {P Q : α → Prop} (h : mQ x P) (k : ∀ a, P a → Q a) : mQ x Q := let ⟨a, h1, h2⟩ := h; ⟨a, h1, k a h2⟩
theorem vL {A β : Type} {j : A → Option β} {b : (A → Option β) → Option β} (R : A → Prop) {Q : β → Prop} (hj : ∀ a, R a → mQ (j a) Q) (hb : ∀ j', (∀ a, R a → mQ (j' a) Q) → mQ (b j') Q) : mQ (aX j b) Q := hb j hj
theorem Kp {A B β : Type} {j : A → B → Option β} {b : (A → B → Option β) → Option β} (R : A → B → Prop) {Q : β → Prop} (hj : ∀ a c, R a c → mQ (j a c) Q) (hb : ∀ j', (∀ a c, R a c → mQ (j' a c) Q) → mQ (b j') Q) : mQ (aX j b) Q := hb j hj
theorem cC {A B C β : Type} {j : A → B → C → Option β} {b : (A → B → C → Option β) → Option β} (R : A → B → C → Prop) {Q : β → Prop} (hj : ∀ a c d, R a c d → mQ (j a c d) Q) (hb : ∀ j', (∀ a c d, R a c d → mQ (j' a c d) Q) → mQ (b j') Q) : mQ (aX j b) Q := hb j hj
theorem pO {α : Type} {l : List α} {i : Int} (h0 : 0 ≤ i) (h1 : i < l.length) : mQ (idx l i) fun x => x ∈ l := Pz l i h0 h1
theorem Un {α : Type} {l : List α} {k : Nat} (h : k < l.length) : mQ (l[k]?) fun x => x ∈ l := by
 rw [List.getElem?_eq_getElem h]
 exact cF (List.getElem_mem h)
theorem eU {α : Type} {b : Nat} {l els : List α} (h : l.length + els.length ≤ 100000) (hb : b ≤ 1000) : mQ (oK b l els) fun r => r = l ++ els := by
 unfold oK
 have : (l.length + els.length) * b ≤ 100000 * 1000 := Nat.mul_le_mul h hb
 rw [if_pos ⟨by omega, by omega⟩]
 exact cF rfl
end Go.Proofs.YtojkihhnioeggaaGreatDoor.S
