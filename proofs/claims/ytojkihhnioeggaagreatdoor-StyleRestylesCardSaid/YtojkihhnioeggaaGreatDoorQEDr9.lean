import Derived.Test.YtojkihhnioeggaaGreatDoorQEBC
import Derived.Test.YtojkihhnioeggaaGreatDoorQEBE
import Derived.WalkLawsBesides
import Derived.Deep.QuietTactic
import Derived.BigQuiet
import Derived.BigRegion
import Derived.Lib.Hide
import Derived.Deep.RegionWith
set_option linter.unusedSimpArgs false
set_option linter.all false
set_option linter.unusedVariables false
namespace Go.Proofs.YtojkihhnioeggaaGreatDoor.S
open Go Go.Bm
theorem Ky (s : ByteArray) (i : Int) (h0 : 0 ≤ i) (h1 : i < s.size) : ∃ u, Ae s i = some u := by
 unfold Ae
 rw [if_pos h0]
 have : i.toNat < s.size := by omega
 rw [getElem?_pos s i.toNat this]
 exact ⟨_, rfl⟩
theorem Ca {α : Type} (l : List α) (i : Int) (h0 : 0 ≤ i) (h1 : i < l.length) : ∃ u, idx l i = some u ∧ u ∈ l := by
 unfold idx
 rw [if_pos h0]
 have : i.toNat < l.length := by omega
 exact ⟨l[i.toNat], by rw [List.getElem?_eq_getElem this], List.getElem_mem this⟩
theorem Ip {α : Type} [Inhabited α] {b : Bool} {x : Option α} (h : b = true) : gd [b] x = x := by simp [gd, h]
theorem gd_f {α : Type} [Inhabited α] {b : Bool} {x : Option α} (h : b = false) : gd [b] x = some default := by simp [gd, h]
def jP {α : Type} (x : Option α) (P : α → Prop) : Prop := ∃ a, x = some a ∧ P a
theorem bZ {α : Type} {a : α} {P : α → Prop} (h : P a) : jP (some a) P := ⟨a, rfl, h⟩
theorem aK {α β : Type} {x : Option α} {f : α → Option β} {P : α → Prop} {Q : β → Prop} (h : jP x P) (k : ∀ a, P a → jP (f a) Q) : jP (x.bind f) Q := by
 obtain ⟨a, rfl, ha⟩ := h
 exact k a ha
theorem bO {α : Type} {b : Bool} {x y : Option α} {P : α → Prop} (h : b = true → jP x P) (k : b = false → jP y P) : jP (if b = true then x else y) P := by
 cases b
 ·exact k rfl
 ·exact h rfl
theorem tot_mono {α : Type} {x : Option α} {P Q : α → Prop} (h : jP x P) (k : ∀ a, P a → Q a) : jP x Q := let ⟨a, h1, h2⟩ := h; ⟨a, h1, k a h2⟩
theorem sH {A β : Type} {j : A → Option β} {b : (A → Option β) → Option β} (R : A → Prop) {Q : β → Prop} (hj : ∀ a, R a → jP (j a) Q) (hb : ∀ j', (∀ a, R a → jP (j' a) Q) → jP (b j') Q) : jP (aS j b) Q := hb j hj
theorem Ug {A B β : Type} {j : A → B → Option β} {b : (A → B → Option β) → Option β} (R : A → B → Prop) {Q : β → Prop} (hj : ∀ a c, R a c → jP (j a c) Q) (hb : ∀ j', (∀ a c, R a c → jP (j' a c) Q) → jP (b j') Q) : jP (aS j b) Q := hb j hj
theorem cA {A B C β : Type} {j : A → B → C → Option β} {b : (A → B → C → Option β) → Option β} (R : A → B → C → Prop) {Q : β → Prop} (hj : ∀ a c d, R a c d → jP (j a c d) Q) (hb : ∀ j', (∀ a c d, R a c d → jP (j' a c d) Q) → jP (b j') Q) : jP (aS j b) Q := hb j hj
theorem mG {α : Type} {l : List α} {i : Int} (h0 : 0 ≤ i) (h1 : i < l.length) : jP (idx l i) fun x => x ∈ l := Ca l i h0 h1
theorem tot_get {α : Type} {l : List α} {k : Nat} (h : k < l.length) : jP (l[k]?) fun x => x ∈ l := by
 rw [List.getElem?_eq_getElem h]
 exact bZ (List.getElem_mem h)
theorem dK {α : Type} {b : Nat} {l els : List α} (h : l.length + els.length ≤ 100000) (hb : b ≤ 1000) : jP (pA b l els) fun r => r = l ++ els := by
 unfold pA
 have : (l.length + els.length) * b ≤ 100000 * 1000 := Nat.mul_le_mul h hb
 rw [if_pos ⟨by omega, by omega⟩]
 exact bZ rfl
end Go.Proofs.YtojkihhnioeggaaGreatDoor.S
