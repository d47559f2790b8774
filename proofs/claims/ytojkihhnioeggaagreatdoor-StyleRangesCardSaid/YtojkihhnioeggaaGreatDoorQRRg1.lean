import Derived.Test.YtojkihhnioeggaaGreatDoorQRCs7
import Derived.WalkKit
import Derived.WalkSpells
import Derived.WalkLawsBesides
import Derived.Deep.QuietTactic
import Derived.BigQuiet
import Derived.BigRegion
import Derived.Lib.Hide
import Derived.Deep.RegionWith
set_option linter.unusedSimpArgs false
set_option linter.unusedVariables false
set_option linter.unusedSimpArgs false
set_option linter.unusedVariables false
namespace Go.Proofs.YtojkihhnioeggaaGreatDoor.S
open Go Go.Bm
theorem rg_L1 (y7 : (List bC) × Int) (i : Nat) (hi : i < y7.1.length) (hr : Ar y7.1[i].Style) (j : Unit → Option Bool) (y2 : bA × aK) : ∀ (d k n : Nat), k + d = 22 → d < n → dQ y7 (i : Int) j y2 n (k : Int) = j ()
 | 0, k, n, hk, hn => by
  obtain ⟨n, rfl⟩ : ∃ m, n = m + 1 := ⟨n - 1, by omega⟩
  rw [dQ, if_neg (by simp; omega)]
 | d + 1, k, n, hk, hn => by
  obtain ⟨n, rfl⟩ : ∃ m, n = m + 1 := ⟨n - 1, by omega⟩
  have hw : IntKind.wrap .i64 ((k : Int) + 1) = ((k + 1 : Nat) : Int) := by rw [Go.Bm.aS (by omega) (by omega)]; omega
  have hg : idx (aA.toL y7.1[i].Style) (k : Int) = some (gt y7.1[i].Style k) := by
   unfold idx; rw [if_pos (by omega), Int.toNat_natCast]; exact Qq _ k (by omega)
  rw [dQ, if_pos (by simp; omega), dS hi]
  simp only [Option.bind_some]
  rw [hg]
  simp only [Option.bind_some]
  rw [(Ac n _ _).1, hr k (by omega)]
  simp only [Option.bind_some, Bool.not_true, Bool.false_eq_true, if_false, hw]
  exact rg_L1 y7 i hi hr j y2 d (k + 1) n (by omega) (by omega)
theorem rg_L0 (y7 : (List bC) × Int) (y2 : bA × aK) (hr : ∀ x, x ∈ y7.1 → Ar x.Style) (hid : y7.1.map bC.ID = y2.1.Nodes.map aP.ID) (hz : y7.1.length ≤ 1000) (j : Unit → Option Bool) : ∀ (k i n : Nat), i + k = y7.1.length → k + 30 < n → dN y7 y2 j n (i : Int) = j ()
 | 0, i, n, hi, hn => by
  obtain ⟨n, rfl⟩ : ∃ m, n = m + 1 := ⟨n - 1, by omega⟩
  rw [dN, if_neg (by simp; omega)]
 | k + 1, i, n, hi, hn => by
  obtain ⟨n, rfl⟩ : ∃ m, n = m + 1 := ⟨n - 1, by omega⟩
  have hw : IntKind.wrap .i64 ((i : Int) + 1) = ((i + 1 : Nat) : Int) := by rw [Go.Bm.aS (by omega) (by omega)]; omega
  have hlt : i < y7.1.length := by omega
  have hl2 : y7.1.length = y2.1.Nodes.length := by simpa using congrArg List.length hid
  have hlt2 : i < y2.1.Nodes.length := by omega
  have he : y7.1[i].ID = y2.1.Nodes[i].ID := by
   have := congrArg (fun l => l[i]?) hid
   simp only [List.getElem?_map, List.getElem?_eq_getElem hlt, List.getElem?_eq_getElem hlt2, Option.map_some] at this
   exact Option.some.inj this
  rw [dN, if_pos (by simp; omega)]
  unfold aR
  rw [dS hlt, dS hlt2]
  simp only [Option.bind_some, he, bne_self_eq_false, Bool.false_eq_true, if_false, hw]
  refine (rg_L1 y7 i hlt (hr _ (List.getElem_mem hlt)) _ y2 22 0 n rfl (by omega)).trans ?_
  exact rg_L0 y7 y2 hr hid hz j k (i + 1) n (by omega) (by omega)
theorem To (n : Nat) (hn : 13000 ≤ n) (haw : oJ n = some true) (l : List Int) : gG n l = some true := by
 have key : kQ (gG n l) fun r => r = true := by
  unfold gG
  refine aE (Za n l) fun y1 h1 => aE (Ub n (by omega) h1) fun y2 ⟨⟨v, hv, hT⟩, h2⟩ => aE (Tc n (by omega) h2) fun y3 ⟨hs, h3⟩ => aE (Tg n (by omega) h3) fun y4 ⟨ht, h4⟩ => aE (Xx n h4) fun y5 ⟨hm, h5⟩ => ?_
  have hf := hv.fuel4
  have hlen := hT.len
  have hsz := hT.size
  refine aE (On n (by omega) (by omega) h5) fun y6 ⟨⟨hst, _⟩, h6⟩ => ?_
  obtain ⟨e1, e2⟩ := Pb hT hv y6.1 hst hs ht y5.1 n (by omega)
  rw [mSc_ok hm] at e1
  rw [e1]
  have hl := Xo y2.1 y6.1 y3.1 y4.1 y5.1
  simp only [Bool.false_eq_true, if_false, Option.bind_some, bne_self_eq_false, hl, Bool.or_self]
  unfold aR
  refine ⟨true, (rg_L0 (Ft y2.1 y6.1 y3.1 y4.1 y5.1, 0) y2 (Ul hT hv y6.1 hst hs ht y5.1) (Fi _ _ _ _ _) (by show (Ft _ _ _ _ _).length ≤ 1000; omega) _ _ 0 n (Nat.zero_add _) (by show (Ft _ _ _ _ _).length + 30 < n; omega)).trans (by rw [haw]; rfl), rfl⟩
 obtain ⟨r, hr, rfl⟩ := key
 exact hr
theorem Ko (l : List Int) : gG 20000 l = some true := To 20000 (by omega) Wc l
end Go.Proofs.YtojkihhnioeggaaGreatDoor.S
