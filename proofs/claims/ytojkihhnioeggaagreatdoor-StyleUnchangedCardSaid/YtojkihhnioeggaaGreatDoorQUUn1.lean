import Derived.Test.YtojkihhnioeggaaGreatDoorQUGU0
import Derived.Test.YtojkihhnioeggaaGreatDoorQURe1
import Derived.WalkKit
import Derived.WalkSpells
import Derived.WalkLawsBesides
import Derived.Deep.QuietTactic
import Derived.BigQuiet
import Derived.BigRegion
import Derived.Lib.Hide
import Derived.Deep.RegionWith
set_option linter.unusedSimpArgs false
set_option linter.unusedVariables false
set_option linter.unusedSimpArgs false
set_option linter.unusedVariables false
namespace Go.Proofs.YtojkihhnioeggaaGreatDoor.S
open Go Go.Bm
theorem Yz {t : bA} {v : aJ} (h : cM t v) (st : List aR) {x : aP} (hx : x ∈ t.Nodes) : smB (wG t st) (wG t st) x = true := by
 have hlk := kP h.nodup hx
 have hlook : cZ x.ID (wG t st).nodes = x := by unfold cZ wG; rw [hlk]; rfl
 have hhas : gU x.ID (wG t st).nodes = true := by unfold gU wG; rw [hlk]; rfl
 unfold smB
 rw [hlook, hhas, eY]
 simp
theorem Et {t : bA} {v : aJ} (h : cM t v) (st : List aR) : ∀ (l pre : List aP), t.Nodes = pre ++ l → (∀ p, p ∈ qX (wG t st) (wG t st) pre [] → p.2 = true) → ∀ p, p ∈ qX (wG t st) (wG t st) t.Nodes [] → p.2 = true
 | [], pre, ht, hp => by rw [ht, List.append_nil]; exact hp
 | x :: l, pre, ht, hp => by
  refine Et h st l (pre ++ [x]) (by rw [ht]; simp) fun p hpp => ?_
  rw [Fo] at hpp
  rcases List.mem_append.1 hpp with hpp | hpp
  ·exact hp p hpp
  ·simp only [List.mem_singleton] at hpp
   subst hpp
   have hx : x ∈ t.Nodes := by rw [ht]; simp
   show reu _ _ _ x = true
   unfold reu
   rw [Yz h st hx]
   rcases h.prt hx with ⟨e1, e2⟩ | ⟨e1, e2, e3⟩
   ·simp [e2]
   ·have hid := Rz h ht
    have hl := h.len
    have hlen : t.Nodes.length = pre.length + (l.length + 1) := by rw [ht]; simp
    have hpk : x.Parent ∈ (qX (wG t st) (wG t st) pre []).map Prod.fst := by
     rw [wR]
     obtain ⟨y, hy, _, hyi⟩ := h.nth (q := (x.Parent - t.Root).toNat) (by omega)
     rw [ht, List.getElem?_append_left (by omega)] at hy
     have : y ∈ pre := List.mem_of_getElem? hy
     simp only [List.map_nil, List.nil_append]
     exact List.mem_map.2 ⟨y, this, by omega⟩
    have key : ∀ M : List (Int × Bool), (∀ p, p ∈ M → p.2 = true) → x.Parent ∈ M.map Prod.fst → cZ x.Parent M = true := by
     intro M
     induction M with
     | nil => intro _ hm; cases hm
     | cons y M ih =>
      intro ha hm
      unfold cZ
      rw [List.lookup_cons]
      by_cases e : x.Parent = y.1
      ·rw [beq_iff_eq.2 e]; exact ha y (by simp)
      ·rw [beq_eq_false_iff_ne.2 e]
       rw [List.map_cons, List.mem_cons] at hm
       exact ih (fun p hp => ha p (by simp [hp])) (hm.resolve_left e)
    rw [key _ hp hpk]
    simp
theorem Xu {R : List (Int × Bool)} (h : ∀ p, p ∈ R → p.2 = true) : Sf R = 0 := by
 unfold Sf
 rw [List.length_eq_zero_iff, List.filter_eq_nil_iff]
 intro p hp
 simp [h p hp]
theorem Mt (n : Nat) (hn : 13000 ≤ n) (haw : oS n = some true) (l : List Int) : eX n l = some true := by
 have key : kV (eX n l) fun r => r = true := by
  unfold eX
  refine aG (aA3 n l) fun y1 h1 => aG (Vc n (by omega) h1) fun y2 ⟨⟨v, hv, hT⟩, h2⟩ => aG (Ue n (by omega) h2) fun y3 ⟨hs, h3⟩ => aG (Ui n (by omega) h3) fun y4 ⟨ht, h4⟩ => aG (Yx n h4) fun y5 ⟨hm, h5⟩ => ?_
  have hf := hv.fuel4
  have hlen := hT.len
  have hsz := hT.size
  refine aG (Pn n (by omega) (by omega) h5) fun y6 ⟨⟨hst, _⟩, h6⟩ => ?_
  obtain ⟨e1, _⟩ := xR hT hv y6.1 hst hs ht y5.1 n (by omega)
  rw [Pf hm] at e1
  rw [e1]
  simp only [Bool.false_eq_true, if_false, Option.bind_some]
  have hL := Yq y2.1 y6.1 y3.1 y4.1 y5.1
  rw [Qg hT hv y6.1 hst hT hv y6.1 hst hs ht y5.1 (Pf hm) _ (Gi _ _ _ _ _) n (by omega) (by omega)]
  simp only [Option.bind_some]
  rw [tV (by simp; omega) (by decide)]
  simp only [Option.bind_some]
  rw [tV (by simp; omega) (by decide)]
  simp only [Option.bind_some]
  rw [Ot hT hv y6.1 y6.1 hst hs ht y5.1 (Pf hm) _ (by simp; omega) n (by omega)]
  rw [Xu (Et hT y6.1 y2.1.Nodes [] rfl fun p hp => nomatch hp)]
  rw [aA6 _ (by omega) n (by omega), haw]
  exact bX rfl
 obtain ⟨r, hr, rfl⟩ := key
 exact hr
theorem De (l : List Int) : eX 20000 l = some true := Mt 20000 (by omega) Xe l
end Go.Proofs.YtojkihhnioeggaaGreatDoor.S
