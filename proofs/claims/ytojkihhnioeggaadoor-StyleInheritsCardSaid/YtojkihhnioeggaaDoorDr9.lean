/- Answers of plain functions. -/
import Derived.Test.YtojkihhnioeggaaDoorBC
import Derived.Test.YtojkihhnioeggaaDoorBE
import Derived.WalkKit
import Derived.WalkSpells
import Derived.WalkLawsBesides
import Derived.Deep.QuietTactic
import Derived.BigQuiet
import Derived.BigRegion
import Derived.Lib.Hide
import Derived.Deep.RegionWith
set_option linter.unusedSimpArgs false
set_option linter.unusedVariables false
set_option linter.unusedSimpArgs false
set_option linter.unusedVariables false
namespace Go.Proofs.YtojkihhnioeggaaDoor.S
open Go Go.Bm
theorem sidx_some (s : ByteArray) (i : Int) (h0 : 0 ≤ i) (h1 : i < s.size) : ∃ u, sidx s i = some u := by
  unfold sidx
  rw [if_pos h0]
  have : i.toNat < s.size := by omega
  rw [getElem?_pos s i.toNat this]
  exact ⟨_, rfl⟩
theorem idx_some {α : Type} (l : List α) (i : Int) (h0 : 0 ≤ i) (h1 : i < l.length) : ∃ u, idx l i = some u ∧ u ∈ l := by
  unfold idx
  rw [if_pos h0]
  have : i.toNat < l.length := by omega
  exact ⟨l[i.toNat], by rw [List.getElem?_eq_getElem this], List.getElem_mem this⟩
theorem gd_t {α : Type} [Inhabited α] {b : Bool} {x : Option α} (h : b = true) : gd [b] x = x := by simp [gd, h]
theorem gd_f {α : Type} [Inhabited α] {b : Bool} {x : Option α} (h : b = false) : gd [b] x = some default := by simp [gd, h]
/-- it answers, and with something of P -/
def Tot {α : Type} (x : Option α) (P : α → Prop) : Prop := ∃ a, x = some a ∧ P a
theorem tot_some {α : Type} {a : α} {P : α → Prop} (h : P a) : Tot (some a) P := ⟨a, rfl, h⟩
theorem tot_bind {α β : Type} {x : Option α} {f : α → Option β} {P : α → Prop} {Q : β → Prop} (h : Tot x P) (k : ∀ a, P a → Tot (f a) Q) : Tot (x.bind f) Q := by
  obtain ⟨a, rfl, ha⟩ := h
  exact k a ha
theorem tot_ite {α : Type} {b : Bool} {x y : Option α} {P : α → Prop} (h : b = true → Tot x P) (k : b = false → Tot y P) : Tot (if b = true then x else y) P := by
  cases b
  · exact k rfl
  · exact h rfl
theorem tot_mono {α : Type} {x : Option α} {P Q : α → Prop} (h : Tot x P) (k : ∀ a, P a → Q a) : Tot x Q := let ⟨a, h1, h2⟩ := h; ⟨a, h1, k a h2⟩
theorem tot_withJ1 {A β : Type} {j : A → Option β} {b : (A → Option β) → Option β} (R : A → Prop) {Q : β → Prop} (hj : ∀ a, R a → Tot (j a) Q) (hb : ∀ j', (∀ a, R a → Tot (j' a) Q) → Tot (b j') Q) : Tot (withJ j b) Q := hb j hj
theorem tot_withJ2 {A B β : Type} {j : A → B → Option β} {b : (A → B → Option β) → Option β} (R : A → B → Prop) {Q : β → Prop} (hj : ∀ a c, R a c → Tot (j a c) Q) (hb : ∀ j', (∀ a c, R a c → Tot (j' a c) Q) → Tot (b j') Q) : Tot (withJ j b) Q := hb j hj
theorem tot_withJ3 {A B C β : Type} {j : A → B → C → Option β} {b : (A → B → C → Option β) → Option β} (R : A → B → C → Prop) {Q : β → Prop} (hj : ∀ a c d, R a c d → Tot (j a c d) Q) (hb : ∀ j', (∀ a c d, R a c d → Tot (j' a c d) Q) → Tot (b j') Q) : Tot (withJ j b) Q := hb j hj
theorem tot_withJ5 {A B C D E β : Type} {j : A → B → C → D → E → Option β} {b : (A → B → C → D → E → Option β) → Option β} (R : A → B → C → D → E → Prop) {Q : β → Prop} (hj : ∀ a c d e f, R a c d e f → Tot (j a c d e f) Q) (hb : ∀ j', (∀ a c d e f, R a c d e f → Tot (j' a c d e f) Q) → Tot (b j') Q) : Tot (withJ j b) Q := hb j hj
theorem tot_idx {α : Type} {l : List α} {i : Int} (h0 : 0 ≤ i) (h1 : i < l.length) : Tot (idx l i) fun x => x ∈ l := idx_some l i h0 h1
theorem tot_inb0 {n : Nat} (h : 0 < n) : Tot (inb 0 n) fun k => k = 0 := by
  unfold inb
  rw [if_pos ⟨Int.le_refl _, by omega⟩]
  exact tot_some rfl
theorem tot_get {α : Type} {l : List α} {k : Nat} (h : k < l.length) : Tot (l[k]?) fun x => x ∈ l := by
  rw [List.getElem?_eq_getElem h]
  exact tot_some (List.getElem_mem h)
theorem tot_apd {α : Type} {b : Nat} {l els : List α} (h : l.length + els.length ≤ 100000) (hb : b ≤ 1000) : Tot (apd b l els) fun r => r = l ++ els := by
  unfold apd
  have : (l.length + els.length) * b ≤ 100000 * 1000 := Nat.mul_le_mul h hb
  rw [if_pos ⟨by omega, by omega⟩]
  exact tot_some rfl
end Go.Proofs.YtojkihhnioeggaaDoor.S
