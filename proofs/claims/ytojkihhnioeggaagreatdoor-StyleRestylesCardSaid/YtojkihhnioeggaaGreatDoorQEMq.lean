import Derived.Test.YtojkihhnioeggaaGreatDoorQEMs1
import Derived.WalkLawsBesides
import Derived.Deep.QuietTactic
import Derived.BigQuiet
import Derived.BigRegion
import Derived.Lib.Hide
import Derived.Deep.RegionWith
set_option linter.unusedSimpArgs false
set_option linter.all false
set_option linter.unusedVariables false
namespace Go.Proofs.YtojkihhnioeggaaGreatDoor.S
open Go Go.Bm
theorem under_eq {t : bA} {v : aN} (h : cR t v) (hv : VG v) (S : fO) (hN : S.nodes = kV t.Nodes) (hC : S.class_ = tE t.Nodes) (r : cM) (x : aU) (hx : x ∈ t.Nodes) : ∃ b, ∀ n, 1000 ≤ n → oM n S r x.ID = some b ∧
  (if ((r.UnderKind == 0) && (bP r.UnderClass nB)) = true then some true else fK t r (fun _ => some false) n x.ID x.Parent x.Kind x.Key x.Attrs x.Actions x.Kids) = some b := by
 have ah := h.size
 have hr := h.rng hx
 obtain ⟨b, hb⟩ := up_eq h hv S hN hC r (fun _ => some false) (fun _ => some false) rfl rfl (eU v) x hx (by omega)
 have hg : cZ x.ID S.nodes = x := by rw [hN]; unfold cZ; rw [lW h.nodup hx]; rfl
 by_cases hc : ((r.UnderKind == 0) && (bP r.UnderClass nB)) = true
 ·refine ⟨true, fun n hn => ⟨?_, ?_⟩⟩
  ·unfold oM; rw [if_pos hc]
  ·rw [if_pos hc]
 ·refine ⟨b, fun n hn => ⟨?_, ?_⟩⟩
  ·unfold oM aS
   rw [if_neg hc, hg]
   simp only [oB]
   exact (hb n (by omega)).1
  ·rw [if_neg hc]; exact (hb n (by omega)).2
theorem Sc {t : bA} {v : aN} (h : cR t v) (hv : VG v) (st : List aO) (af : st.length ≤ 1000) (r : cM) (x : aU) (hx : x ∈ t.Nodes) : ∃ b, ∀ n, 1100 ≤ n → lV n ⟨kV t.Nodes, tE t.Nodes, Ve st⟩ r x.ID = some b ∧ kB n r t st x.ID = some b := by
 obtain ⟨b, hb⟩ := under_eq h hv ⟨kV t.Nodes, tE t.Nodes, Ve st⟩ rfl rfl r x hx
 have hg : cZ x.ID (kV t.Nodes) = x := by unfold cZ; rw [lW h.nodup hx]; rfl
 have hcg : cZ x.ID (tE t.Nodes) = cls x := by
  unfold cZ
  rw [show (tE t.Nodes).lookup x.ID = some (cls x) from uI (fun x => Vm x.Attrs (⟨#[99, 108, 97, 115, 115]⟩ : ByteArray)) h.nodup hx]
  rfl
 refine ⟨if (((r.Kind != 0) && (r.Kind != x.Kind)) || ((!(bP r.Class nB)) && (!(bP r.Class (cls x))))) = true then false else if ((oU .i64 (Wp st x.ID) r.States) == r.States) = true then b else false, fun n hn => ?_⟩
 obtain ⟨hb1, hb2⟩ := hb n (by omega)
 unfold lV kB aS
 rw [yS h n (by omega) hx]
 simp only [oB]
 rw [Ar (h.ok hv x hx) n (by omega), zX st af x.ID n (by omega), hb1, hb2]
 rw [hg, hcg, Fl]
 rw [show Vm x.Attrs (⟨#[99, 108, 97, 115, 115]⟩ : ByteArray) = cls x from rfl]
 generalize hK : (r.Kind != 0) = K0
 generalize hK2 : (r.Kind != x.Kind) = K1
 generalize hE : bP r.Class nB = E0
 generalize hE1 : bP r.Class (cls x) = E1
 generalize hS : ((oU .i64 (Wp st x.ID) r.States) == r.States) = S0
 have hS' : ((oU .i64 (Wp st x.ID) r.States) != r.States) = !S0 := by rw [← hS]; rfl
 cases K0 <;> cases K1 <;> cases E0 <;> cases E1 <;> cases S0 <;> simp_all [gd]
end Go.Proofs.YtojkihhnioeggaaGreatDoor.S
