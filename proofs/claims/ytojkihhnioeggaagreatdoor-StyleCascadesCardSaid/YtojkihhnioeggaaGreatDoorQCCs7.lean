import Derived.Test.YtojkihhnioeggaaGreatDoorQCCs6
import Derived.WalkKit
import Derived.WalkSpells
import Derived.WalkLawsBesides
import Derived.Deep.QuietTactic
import Derived.BigQuiet
import Derived.BigRegion
import Derived.Lib.Hide
import Derived.Deep.RegionWith
set_option linter.unusedSimpArgs false
set_option linter.unusedVariables false
set_option linter.unusedSimpArgs false
set_option linter.unusedVariables false
namespace Go.Proofs.YtojkihhnioeggaaGreatDoor.S
open Go Go.Bm
theorem Zk (n : Nat) {p : aO} (h : bT p) : lJ (wG n p) fun y => (50 ≤ y.1.Scale ∧ y.1.Scale ≤ 400) ∧ bT y.2 := by
 unfold wG
 refine aK (cS n h (by decide)) fun y1 ⟨_, _, c1⟩ => aK (cS n c1 (by decide)) fun y2 ⟨_, _, c2⟩ => aK (cS n c2 (by decide)) fun y3 ⟨a, b, c3⟩ => aK (mK a (b (by decide))) fun e he => cA ⟨?_, c3⟩
 simp only [List.mem_cons, List.not_mem_nil, or_false] at he
 show 50 ≤ e ∧ e ≤ 400
 omega
theorem Xp : pE 20000 = some true := by kernel_rfl
theorem Re (n : Nat) (hn : 13000 ≤ n) (haw : pE n = some true) (l : List Int) : fU n l = some true := by
 have key : lJ (fU n l) fun r => r = true := by
  unfold fU
  refine aK (src_New n l) fun y1 h1 => aK (Vn n (by omega) h1) fun y2 ⟨⟨v, hv, hT⟩, h2⟩ => aK (Uq n (by omega) h2) fun y3 ⟨hs, h3⟩ => aK (Uu n (by omega) h3) fun y4 ⟨ht, h4⟩ => aK (Zk n h4) fun y5 ⟨_, h5⟩ => ?_
  have hf := hv.fuel4
  have hlen := hT.len
  have hsz := hT.size
  refine aK (Qc n (by omega) (by omega) h5) fun y6 ⟨⟨hst, _⟩, h6⟩ => ?_
  refine oN (fun _ => True) (fun v10 _ => ?_) fun j k => aK (cS n h6 (by decide)) fun y8 ⟨_, _, h8⟩ => bO (fun _ => aK (wM n h8 (by decide) (by decide) (by decide)) fun y9 _ => k _ trivial) fun _ => k _ trivial
  obtain ⟨e1, e2⟩ := Qp hT hv y6.1 hst hs ht (cQ.mk y5.1.Dark y5.1.High v10) n (by omega)
  rw [e1, e2]
  simp only [Option.bind_some, beq_self_eq_true, tW, if_true, Bool.true_and]
  have hsame : oT n (if mSc (cQ.mk y5.1.Dark y5.1.High v10) = true then (([] : List bD), (1 : Int)) else (Ma y2.1 y6.1 y3.1 y4.1 (cQ.mk y5.1.Dark y5.1.High v10), 0)).1 (if mSc (cQ.mk y5.1.Dark y5.1.High v10) = true then (([] : List bD), (1 : Int)) else (Ma y2.1 y6.1 y3.1 y4.1 (cQ.mk y5.1.Dark y5.1.High v10), 0)).1 = some true := by
   refine same_eq _ ?_ n (by omega)
   split
   ·simp
   ·show (Ma _ _ _ _ _).length ≤ 1000
    rw [Za]; omega
  rw [hsame]
  simp only [Option.bind_some, if_true, haw, Bool.and_self]
  exact cA rfl
 obtain ⟨r, hr, rfl⟩ := key
 exact hr
theorem Hd (l : List Int) : fU 20000 l = some true := Re 20000 (by omega) Xp l
end Go.Proofs.YtojkihhnioeggaaGreatDoor.S
