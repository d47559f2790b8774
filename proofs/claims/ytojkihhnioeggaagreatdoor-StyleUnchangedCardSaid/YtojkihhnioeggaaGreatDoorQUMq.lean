import Derived.Test.YtojkihhnioeggaaGreatDoorQUMs1
import Derived.WalkKit
import Derived.WalkSpells
import Derived.WalkLawsBesides
import Derived.Deep.QuietTactic
import Derived.BigQuiet
import Derived.BigRegion
import Derived.Lib.Hide
import Derived.Deep.RegionWith
set_option linter.unusedSimpArgs false
set_option linter.unusedVariables false
set_option linter.unusedSimpArgs false
set_option linter.unusedVariables false
namespace Go.Proofs.YtojkihhnioeggaaGreatDoor.S
open Go Go.Bm
theorem Yb {t : bA} {v : aJ} (h : cM t v) (hv : nZ 4 v) (S : eI) (hN : S.nodes = jZ t.Nodes) (hC : S.class_ = sT t.Nodes) (r : bY) (x : aP) (hx : x ∈ t.Nodes) : ∃ b, ∀ n, 1000 ≤ n → mU n S r x.ID = some b ∧
  (if ((r.UnderKind == 0) && (bV r.UnderClass (⟨#[]⟩ : ByteArray))) = true then some true else iB t r (fun _ => some false) n x.ID x.Parent x.Kind x.Key x.Attrs x.Actions x.Kids) = some b := by
 have hsz := h.size
 have hr := h.rng hx
 obtain ⟨b, hb⟩ := aBh h hv S hN hC r (fun _ => some false) (fun _ => some false) rfl rfl (fW v) x hx (by omega)
 have hg : cZ x.ID S.nodes = x := by rw [hN]; unfold cZ; rw [kP h.nodup hx]; rfl
 by_cases hc : ((r.UnderKind == 0) && (bV r.UnderClass (⟨#[]⟩ : ByteArray))) = true
 ·refine ⟨true, fun n hn => ⟨?_, ?_⟩⟩
  ·unfold mU; rw [if_pos hc]
  ·rw [if_pos hc]
 ·refine ⟨b, fun n hn => ⟨?_, ?_⟩⟩
  ·unfold mU aS
   rw [if_neg hc, hg]
   simp only [Option.bind_some]
   exact (hb n (by omega)).1
  ·rw [if_neg hc]; exact (hb n (by omega)).2
theorem Ou {t : bA} {v : aJ} (h : cM t v) (hv : nZ 4 v) (st : List aR) (hst : st.length ≤ 1000) (r : bY) (x : aP) (hx : x ∈ t.Nodes) : ∃ b, ∀ n, 1100 ≤ n → kO n ⟨jZ t.Nodes, sT t.Nodes, Rp st⟩ r x.ID = some b ∧ mD n r t st x.ID = some b := by
 obtain ⟨b, hb⟩ := Yb h hv ⟨jZ t.Nodes, sT t.Nodes, Rp st⟩ rfl rfl r x hx
 have hg : cZ x.ID (jZ t.Nodes) = x := by unfold cZ; rw [kP h.nodup hx]; rfl
 have hcg : cZ x.ID (sT t.Nodes) = cls x := by
  unfold cZ
  rw [show (sT t.Nodes).lookup x.ID = some (cls x) from Ag (fun x => Zf x.Attrs (⟨#[99, 108, 97, 115, 115]⟩ : ByteArray)) h.nodup hx]
  rfl
 refine ⟨if (((r.Kind != 0) && (r.Kind != x.Kind)) || ((!(bV r.Class (⟨#[]⟩ : ByteArray))) && (!(bV r.Class (cls x))))) = true then false else if ((mI .i64 (Zv st x.ID) r.States) == r.States) = true then b else false, fun n hn => ?_⟩
 obtain ⟨hb1, hb2⟩ := hb n (by omega)
 unfold kO mD aS
 rw [zT h n (by omega) hx]
 simp only [Option.bind_some]
 rw [Lo (h.ok hv x hx) n (by omega), Qa st hst x.ID n (by omega), hb1, hb2]
 rw [hg, hcg, Re]
 rw [show Zf x.Attrs (⟨#[99, 108, 97, 115, 115]⟩ : ByteArray) = cls x from rfl]
 generalize hK : (r.Kind != 0) = K0
 generalize hK2 : (r.Kind != x.Kind) = K1
 generalize hE : bV r.Class (⟨#[]⟩ : ByteArray) = E0
 generalize hE1 : bV r.Class (cls x) = E1
 generalize hS : ((mI .i64 (Zv st x.ID) r.States) == r.States) = S0
 have hS' : ((mI .i64 (Zv st x.ID) r.States) != r.States) = !S0 := by rw [← hS]; rfl
 cases K0 <;> cases K1 <;> cases E0 <;> cases E1 <;> cases S0 <;> simp_all [gd]
end Go.Proofs.YtojkihhnioeggaaGreatDoor.S
