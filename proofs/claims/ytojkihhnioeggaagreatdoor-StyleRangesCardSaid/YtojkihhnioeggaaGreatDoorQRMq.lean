import Derived.Test.YtojkihhnioeggaaGreatDoorQRMs1
import Derived.WalkKit
import Derived.WalkSpells
import Derived.WalkLawsBesides
import Derived.Deep.QuietTactic
import Derived.BigQuiet
import Derived.BigRegion
import Derived.Lib.Hide
import Derived.Deep.RegionWith
set_option linter.unusedSimpArgs false
set_option linter.unusedVariables false
set_option linter.unusedSimpArgs false
set_option linter.unusedVariables false
namespace Go.Proofs.YtojkihhnioeggaaGreatDoor.S
open Go Go.Bm
theorem Wy {t : bA} {v : aG} (h : cT t v) (hv : oT 4 v) (S : iY) (hN : S.nodes = kE t.Nodes) (hC : S.class_ = tO t.Nodes) (r : bT) (x : aP) (hx : x ∈ t.Nodes) : ∃ b, ∀ n, 1000 ≤ n → mO n S r x.ID = some b ∧
  (if ((r.UnderKind == 0) && (cS r.UnderClass (⟨#[]⟩ : ByteArray))) = true then some true else gX t r (fun _ => some false) n x.ID x.Parent x.Kind x.Key x.Attrs x.Actions x.Kids) = some b := by
 have hsz := h.size
 have hr := h.rng hx
 obtain ⟨b, hb⟩ := aAg h hv S hN hC r (fun _ => some false) (fun _ => some false) rfl rfl (gD v) x hx (by omega)
 have hg : eN x.ID S.nodes = x := by rw [hN]; unfold eN; rw [mQ h.nodup hx]; rfl
 by_cases hc : ((r.UnderKind == 0) && (cS r.UnderClass (⟨#[]⟩ : ByteArray))) = true
 ·refine ⟨true, fun n hn => ⟨?_, ?_⟩⟩
  ·unfold mO; rw [if_pos hc]
  ·rw [if_pos hc]
 ·refine ⟨b, fun n hn => ⟨?_, ?_⟩⟩
  ·unfold mO aR
   rw [if_neg hc, hg]
   simp only [Option.bind_some]
   exact (hb n (by omega)).1
  ·rw [if_neg hc]; exact (hb n (by omega)).2
theorem Nu {t : bA} {v : aG} (h : cT t v) (hv : oT 4 v) (st : List aT) (hst : st.length ≤ 1000) (r : bT) (x : aP) (hx : x ∈ t.Nodes) : ∃ b, ∀ n, 1100 ≤ n → kH n ⟨kE t.Nodes, tO t.Nodes, Sf st⟩ r x.ID = some b ∧ lX n r t st x.ID = some b := by
 obtain ⟨b, hb⟩ := Wy h hv ⟨kE t.Nodes, tO t.Nodes, Sf st⟩ rfl rfl r x hx
 have hg : eN x.ID (kE t.Nodes) = x := by unfold eN; rw [mQ h.nodup hx]; rfl
 have hcg : eN x.ID (tO t.Nodes) = cls x := by
  unfold eN
  rw [show (tO t.Nodes).lookup x.ID = some (cls x) from zN (fun x => Yc x.Attrs (⟨#[99, 108, 97, 115, 115]⟩ : ByteArray)) h.nodup hx]
  rfl
 refine ⟨if (((r.Kind != 0) && (r.Kind != x.Kind)) || ((!(cS r.Class (⟨#[]⟩ : ByteArray))) && (!(cS r.Class (cls x))))) = true then false else if ((mD .i64 (Ys st x.ID) r.States) == r.States) = true then b else false, fun n hn => ?_⟩
 obtain ⟨hb1, hb2⟩ := hb n (by omega)
 unfold kH lX aR
 rw [yX h n (by omega) hx]
 simp only [Option.bind_some]
 rw [Ku (h.ok hv x hx) n (by omega), Pc st hst x.ID n (by omega), hb1, hb2]
 rw [hg, hcg, Qe]
 rw [show Yc x.Attrs (⟨#[99, 108, 97, 115, 115]⟩ : ByteArray) = cls x from rfl]
 generalize hK : (r.Kind != 0) = K0
 generalize hK2 : (r.Kind != x.Kind) = K1
 generalize hE : cS r.Class (⟨#[]⟩ : ByteArray) = E0
 generalize hE1 : cS r.Class (cls x) = E1
 generalize hS : ((mD .i64 (Ys st x.ID) r.States) == r.States) = S0
 have hS' : ((mD .i64 (Ys st x.ID) r.States) != r.States) = !S0 := by rw [← hS]; rfl
 cases K0 <;> cases K1 <;> cases E0 <;> cases E1 <;> cases S0 <;> simp_all [gd]
end Go.Proofs.YtojkihhnioeggaaGreatDoor.S
