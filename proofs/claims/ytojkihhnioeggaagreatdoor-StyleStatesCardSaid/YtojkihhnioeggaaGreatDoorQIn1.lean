import Derived.Test.YtojkihhnioeggaaGreatDoorQVw5
import Derived.WalkKit
import Derived.WalkSpells
import Derived.WalkLawsBesides
import Derived.Deep.QuietTactic
import Derived.BigQuiet
import Derived.BigRegion
import Derived.Lib.Hide
import Derived.Deep.RegionWith
set_option linter.unusedSimpArgs false
set_option linter.unusedVariables false
set_option linter.unusedSimpArgs false
set_option linter.unusedVariables false
namespace Go.Proofs.YtojkihhnioeggaaGreatDoor.S
open Go Go.Bm
structure Qs (l : List aY) : Prop where
 len : l.length ≤ 24
 ok : ∀ a, a ∈ l → Yh a
structure Rv (x : aR) : Prop where
 at_ : Qs x.Attrs
 kind : 1 ≤ x.Kind ∧ x.Kind ≤ 13
theorem Dg (d : Nat) : ∀ (l : List aK), (∀ k, k ∈ l → ∀ i p x, x ∈ sY i p k → Rv x) → ∀ i p x, x ∈ jX i p l → Rv x
 | [], _, _, _, _, h => nomatch h
 | v :: l, h, i, p, x, hx => by
  rw [jX, List.mem_append] at hx
  rcases hx with hx | hx
  ·exact h v (by simp) i p x hx
  ·exact Dg d l (fun k hk => h k (by simp [hk])) _ p x hx
theorem Xz (v : aK) : ∀ d, sS d v → ∀ i p x, x ∈ sY i p v → Rv x := by
 induction v using jJ with
 | h v ih =>
  intro d hv i p x hx
  match d, hv with
  | d + 1, ⟨hl, hk⟩ =>
  rw [lJ, List.mem_cons] at hx
  rcases hx with rfl | hx
  ·exact ⟨⟨hl.alen, hl.attrs⟩, hl.kind⟩
  ·exact Dg d v.Kids (fun k hm i p x hx => ih k hm d (hk k hm) i p x hx) _ _ x hx
theorem dK.len {t : bD} {v : aK} (h : dK t v) : t.Nodes.length = gM v := by rw [h.nodes, Fu]
theorem dK.ok {t : bD} {v : aK} (h : dK t v) (hv : sS 4 v) : ∀ x, x ∈ t.Nodes → Rv x := fun x hx => Xz v 4 hv _ _ x (by rw [h.nodes] at hx; exact hx)
end Go.Proofs.YtojkihhnioeggaaGreatDoor.S
