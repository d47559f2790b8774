import Derived.Test.YtojkihhnioeggaaGreatDoorQCMs1
import Derived.WalkKit
import Derived.WalkSpells
import Derived.WalkLawsBesides
import Derived.Deep.QuietTactic
import Derived.BigQuiet
import Derived.BigRegion
import Derived.Lib.Hide
import Derived.Deep.RegionWith
set_option linter.unusedSimpArgs false
set_option linter.unusedVariables false
set_option linter.unusedSimpArgs false
set_option linter.unusedVariables false
namespace Go.Proofs.YtojkihhnioeggaaGreatDoor.S
open Go Go.Bm
theorem Yl {t : bB} {v : aL} (h : cV t v) (hv : pQ 4 v) (S : jJ) (hN : S.nodes = kX t.Nodes) (hC : S.class_ = uD t.Nodes) (r : bZ) (x : aR) (hx : x ∈ t.Nodes) : ∃ b, ∀ n, 1000 ≤ n → nG n S r x.ID = some b ∧
  (if ((r.UnderKind == 0) && (bQ r.UnderClass (⟨#[]⟩ : ByteArray))) = true then some true else eY t r (fun _ => some false) n x.ID x.Parent x.Kind x.Key x.Attrs x.Actions x.Kids) = some b := by
 have hsz := h.size
 have hr := h.rng hx
 obtain ⟨b, hb⟩ := up_eq h hv S hN hC r (fun _ => some false) (fun _ => some false) rfl rfl (gR v) x hx (by omega)
 have hg : eO x.ID S.nodes = x := by rw [hN]; unfold eO; rw [nI h.nodup hx]; rfl
 by_cases hc : ((r.UnderKind == 0) && (bQ r.UnderClass (⟨#[]⟩ : ByteArray))) = true
 ·refine ⟨true, fun n hn => ⟨?_, ?_⟩⟩
  ·unfold nG; rw [if_pos hc]
  ·rw [if_pos hc]
 ·refine ⟨b, fun n hn => ⟨?_, ?_⟩⟩
  ·unfold nG aS
   rw [if_neg hc, hg]
   simp only [Option.bind_some]
   exact (hb n (by omega)).1
  ·rw [if_neg hc]; exact (hb n (by omega)).2
theorem Pk {t : bB} {v : aL} (h : cV t v) (hv : pQ 4 v) (st : List aT) (hst : st.length ≤ 1000) (r : bZ) (x : aR) (hx : x ∈ t.Nodes) : ∃ b, ∀ n, 1100 ≤ n → lA n ⟨kX t.Nodes, uD t.Nodes, Tt st⟩ r x.ID = some b ∧ jH n r t st x.ID = some b := by
 obtain ⟨b, hb⟩ := Yl h hv ⟨kX t.Nodes, uD t.Nodes, Tt st⟩ rfl rfl r x hx
 have hg : eO x.ID (kX t.Nodes) = x := by unfold eO; rw [nI h.nodup hx]; rfl
 have hcg : eO x.ID (uD t.Nodes) = cls x := by
  unfold eO
  rw [show (uD t.Nodes).lookup x.ID = some (cls x) from Av (fun x => Zq x.Attrs (⟨#[99, 108, 97, 115, 115]⟩ : ByteArray)) h.nodup hx]
  rfl
 refine ⟨if (((r.Kind != 0) && (r.Kind != x.Kind)) || ((!(bQ r.Class (⟨#[]⟩ : ByteArray))) && (!(bQ r.Class (cls x))))) = true then false else if ((jW .i64 (stf st x.ID) r.States) == r.States) = true then b else false, fun n hn => ?_⟩
 obtain ⟨hb1, hb2⟩ := hb n (by omega)
 unfold lA jH aS
 rw [Ab h n (by omega) hx]
 simp only [Option.bind_some]
 rw [Mj (h.ok hv x hx) n (by omega), Qq st hst x.ID n (by omega), hb1, hb2]
 rw [hg, hcg, Rv]
 rw [show Zq x.Attrs (⟨#[99, 108, 97, 115, 115]⟩ : ByteArray) = cls x from rfl]
 generalize hK : (r.Kind != 0) = K0
 generalize hK2 : (r.Kind != x.Kind) = K1
 generalize hE : bQ r.Class (⟨#[]⟩ : ByteArray) = E0
 generalize hE1 : bQ r.Class (cls x) = E1
 generalize hS : ((jW .i64 (stf st x.ID) r.States) == r.States) = S0
 have hS' : ((jW .i64 (stf st x.ID) r.States) != r.States) = !S0 := by rw [← hS]; rfl
 cases K0 <;> cases K1 <;> cases E0 <;> cases E1 <;> cases S0 <;> simp_all [gd]
end Go.Proofs.YtojkihhnioeggaaGreatDoor.S
